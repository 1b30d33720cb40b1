/- Orphans In: what each call returns, part 3. -/
import Derived.Test.YtfhpejjhhhgooaaGreatDoorOrphansInC2
set_option maxRecDepth 100000
set_option maxHeartbeats 2000000
open Go.Proofs.Tryz Go.Proofs.YtfhpejjhhhgooaaGreatDoor.Tryz
set_option linter.unusedVariables false
set_option linter.unusedSimpArgs false
namespace Go.Proofs.YtfhpejjhhhgooaaGreatDoor
open Go.RowKit Go.X
theorem c_g_slices_Clone_string {A1 : Option Addr} {c1 : Nat} {w : World} (p_s : List Str) (h1 : RdS w (Iv 0 w.heap.size) (RF e_Str) 1 A1 p_s.length c1 p_s) (o2 : (okL okS) p_s) : Cal Tryz.prog 65 #[.slice A1 p_s.length c1] w fun v w' => ∃ A_1 c_1 lo_1 hi_1, v = .slice A_1 ((g_slices_Clone_string p_s).length) c_1 ∧ OwnL w' lo_1 hi_1 9 1 (RF e_Str) A_1 ((g_slices_Clone_string p_s).length) c_1 (g_slices_Clone_string p_s) ∧ (okL okS) (g_slices_Clone_string p_s) ∧ (w.heap.size ≤ lo_1 ∧ lo_1 ≤ hi_1 ∧ hi_1 ≤ w'.heap.size) ∧ Ex w w' := by
 have hol3 := o2.1
 refine Cal.of func65 rfl ntmps65 rfl (CW.seq (CW.region (sd rfl (yl_assign rfl rfl (dn (CW.seq (CW.seq (CW.region ?_))))))))
 refine sd rfl (yl_move rfl rfl (sd rfl (yl_snil un22 rfl rfl rfl (dn (bcase (A1.isNone) (fun hb4 => ?_) (fun hb4 => ?_))))))
 ·have hnil5 : p_s = [] := RdS.nilA h1 hb4
  refine CW.cond_t rfl hb4 (CW.seq (CW.region (sd rfl (yl_assign rfl rfl (dn (CW.ret (tr (rr rfl (.cons rfl .nil) ?_))))))))
  have hM6 : (g_slices_Clone_string p_s) = (([] : List Str)) := by simp only [g_slices_Clone_string, hnil5, cond_true, cond_false, loopE_done, loopE_ret, List.append_nil]
  rw [hM6]
  exact ⟨none, 0, w.heap.size, w.heap.size, rfl, (OwnL.nil _ _ _ _ _ _), (okL.nil _), (by omega), (Ex.refl w)⟩
 ·refine CW.cond_f rfl hb4 (CW.skip (tn (CW.seq (CW.region (sd rfl (yl_buildSlice (cs := []) un22 ty9 (by decide) rfl opvs_nil (by kernel_rfl) ?_))))))
  intro b7 w8 hs9 hz10 hB11 hE12
  have hO13 : OwnL w8 b7 (b7 + 1) 9 1 (RF e_Str) (some ⟨b7, 0, none⟩) 0 0 ([] : List Str) := OwnL.of_box (S := fun _ => False) hB11 (Nat.le_refl _) (Nat.lt_succ_self _) EncL.nil (Nat.le_of_ble_eq_true rfl) (fun h => h) (fun _ h => False.elim h)
  refine sd rfl (yl_move rfl rfl ?_)
  obtain ⟨nw15, he16, hs17⟩ := RdS.src (RdS.ex good_Str h1 hE12)
  have hol18 : p_s.length ≤ 2147483648 := o2.1
  refine sd rfl (yl_appendL (S := (fun _ => False)) (lo := b7) (hi := (b7 + 1)) (xs := ([] : List Str)) (ys := p_s) good_Str un22 ty9 rfl (Nat.le_of_ble_eq_true rfl) rfl rfl rfl hO13 he16 hs17 rfl (by first | omega | (simp only [List.length_append, List.length_cons, List.length_nil, List.length_take, List.length_drop, List.length_replicate, List.length_set, toS_length]; omega)) (by first | omega | (simp only [List.length_append, List.length_cons, List.length_nil, List.length_take, List.length_drop, List.length_replicate, List.length_set, toS_length]; omega)) (by omega) (by omega) (fun _ h _ => False.elim h) (by omega) ?_)
  intro A19 c20 w21 row22 hO23 hG24 hrg25
  have hG24z := hG24.size
  refine sd rfl (yl_assign rfl rfl (dn (CW.ret (rr rfl (.cons rfl .nil) ?_))))
  have hM26 : (g_slices_Clone_string p_s) = ((([] : List Str) ++ p_s)) := by simp only [g_slices_Clone_string, cL]
  have hol27 : p_s.length ≤ 2147483648 := o2.1
  rw [hM26]
  exact ⟨A19, c20, b7, w21.heap.size, rfl, hO23, (okL.mk (xs := (([] : List Str) ++ p_s)) (by first | omega | (simp only [List.length_append, List.length_cons, List.length_nil, List.length_take, List.length_drop, List.length_replicate, List.length_set, toS_length]; omega)) (okE.append okE.nil (o2).2)), (by omega), (Below.grown (Ex.trans (Ex.refl w) hE12) hG24 (by omega) (fun k hk => by have := hrg25 k hk; omega))⟩
theorem c_i_without_c1 {A2 : Option Addr} {c2 : Nat} {b3 : Nat} {w : World} (p_s : Str) (p_cap0 : List Str) (h2 : RdS w (Iv 0 w.heap.size) (RF e_Str) 1 A2 p_cap0.length c2 p_cap0) (h4 : Box w b3 22 [.slice A2 p_cap0.length c2]) (o1 : okS p_s) (o5 : (okL okS) p_cap0) : Cal Tryz.prog 66 #[.string (bs (p_s)), .pointer (some ⟨b3, 0, none⟩)] w fun v w' => v = .bool ((i_without_c1 p_s p_cap0)) ∧ Ex w w' := by
 refine Cal.of func66 rfl ntmps66 rfl (CW.seq (CW.region (sd rfl (yl_assign rfl rfl (dn (CW.seq (CW.region (sd rfl (yl_load1 ty22 rfl rfl ((h4.cell 0).trans rfl) ?_)))))))))
 refine sd rfl (yl_move rfl rfl (sd rfl (yl_call en67 rfl (oc rfl (oc rfl oz)) (Cal.mono (c_g_slices_Contains_string p_cap0 p_s (RdS.up h2 good_Str) o5 o1) ?_))))
 rintro v9 w8 ⟨rfl, hE10⟩
 refine sd rfl (yl_assign rfl rfl (dn (CW.ret (rr rfl (.cons rfl .nil) ?_))))
 have hM11 : (i_without_c1 p_s p_cap0) = ((g_slices_Contains_string p_cap0 p_s)) := by simp only [i_without_c1, cL]
 rw [hM11]
 exact ⟨rfl, (Ex.trans (Ex.refl w) hE10)⟩
theorem c_i_without {A1 : Option Addr} {c1 : Nat} {A3 : Option Addr} {c3 : Nat} {w : World} (p_l : List Str) (p_other : List Str) (h1 : RdS w (Iv 0 w.heap.size) (RF e_Str) 1 A1 p_l.length c1 p_l) (h3 : RdS w (Iv 0 w.heap.size) (RF e_Str) 1 A3 p_other.length c3 p_other) (o2 : (okL okS) p_l) (o4 : (okL okS) p_other) : Cal Tryz.prog 48 #[.slice A1 p_l.length c1, .slice A3 p_other.length c3] w fun v w' => ∃ A_1 c_1 lo_1 hi_1, v = .slice A_1 ((i_without p_l p_other).length) c_1 ∧ OwnL w' lo_1 hi_1 9 1 (RF e_Str) A_1 ((i_without p_l p_other).length) c_1 (i_without p_l p_other) ∧ (okL okS) (i_without p_l p_other) ∧ (w.heap.size ≤ lo_1 ∧ lo_1 ≤ hi_1 ∧ hi_1 ≤ w'.heap.size) ∧ Ex w w' := by
 have hol5 := o2.1
 have hol6 := o4.1
 refine Cal.of func48 rfl ntmps48 rfl (CW.seq (CW.region (sd rfl (yl_box rfl rfl rfl ?_))))
 intro b7 w8 hs9 hz10 hB11 hE12
 refine sd rfl (yl_assign rfl rfl (dn (CW.seq (CW.region (sd rfl (yl_move rfl rfl (sd rfl (yl_call en65 rfl (oc rfl oz) (Cal.mono (c_g_slices_Clone_string p_l (RdS.up (RdS.ex good_Str h1 hE12) good_Str) o2) ?_)))))))))
 rintro v17 w14 ⟨A15, c15, lo15, hi15, rfl, h15, ho16, hrn19, hE18⟩
 have hE18z := Ex.size hE18
 refine sd rfl (yl_makeFunc rfl (oc rfl oz) (sd rfl (yl_call en64 rfl (oc rfl (oc rfl oz)) (Cal.mono (c_g_slices_DeleteFunc_string (g_slices_Clone_string p_l) (fun y0 => i_without_c1 y0 p_other) h15 en66 (fun _ y0 => fun hE hm0 ov0 => c_i_without_c1 y0 p_other (RdS.up (RdS.mut good_Str (RdS.ex good_Str (RdS.ex good_Str h3 hE12) hE18) hE (fun k hk => by simp only [InR, or_false, Iv, Ge] at hk ⊢; omega)) good_Str) (Box.mut (Box.ex hB11 hE18) hE (fun k hk => by simp only [InR, or_false] at hk; omega)) ov0 o4) (by omega) ho16) ?_))))
 rintro v26 w23 ⟨A24, c24, rfl, h24, ho25, hm27⟩
 have hm27z := Mut.size hm27
 refine sd rfl (yl_assign rfl rfl (dn (CW.ret (rr rfl (.cons rfl .nil) ?_))))
 have hM28 : (i_without p_l p_other) = ((g_slices_DeleteFunc_string (g_slices_Clone_string p_l) (fun y0 => i_without_c1 y0 p_other))) := by simp only [i_without, cL]
 rw [hM28]
 exact ⟨A24, c24, lo15, hi15, rfl, h24, ho25, (by omega), (Ex.mut (Ex.trans (Ex.trans (Ex.refl w) hE12) hE18) hm27 (fun k hk => by simp only [InR, or_false] at hk; omega))⟩
theorem c_g_internal_stringslite_HasPrefix {w : World} (p_s : Str) (p_prefix : Str) (o1 : okS p_s) (o2 : okS p_prefix) : Cal Tryz.prog 108 #[.string (bs (p_s)), .string (bs (p_prefix))] w fun v w' => v = .bool ((g_internal_stringslite_HasPrefix p_s p_prefix)) ∧ Ex w w' := by
 have hol3 : p_s.length ≤ 1073741824 := o1
 have hol4 : p_prefix.length ≤ 1073741824 := o2
 refine Cal.of func108 rfl ntmps108 rfl (CW.seq (CW.region (sd rfl (yl_assign rfl rfl (dn (CW.seq (CW.region (sd rfl (yl_move rfl rfl ?_)))))))))
 refine sd rfl (yl_slen un9 (a := p_s) rfl rfl (sd rfl (yl_move rfl rfl (sd rfl (yl_slen un9 (a := p_prefix) rfl rfl (sd rfl (yl_geq rfl rfl rfl (sd rfl (yl_move rfl rfl (bcase (decide ((p_prefix.length : Int) ≤ (p_s.length : Int))) (fun hb5 => ?_) (fun hb5 => ?_)))))))))))
 ·have hb5p := dec_t hb5
  refine sy rfl rfl hb5 (yl_move rfl rfl (sy rfl rfl hb5 (yl_move rfl rfl (sy rfl rfl hb5 (yl_slen un9 (a := p_prefix) rfl rfl (sy rfl rfl hb5 (yl_sslice_hi un9 (a := p_s) (h := p_prefix.length) rfl rfl rfl (by omega) (sy rfl rfl hb5 (yl_move rfl rfl (sy rfl rfl hb5 (yl_seql (a := (p_s.take p_prefix.length)) (b := p_prefix) rfl rfl rfl (sd rfl (yl_pick_t rfl rfl hb5 rfl (sd rfl (yl_assign rfl rfl (SeqR.done ?_))))))))))))))))
  refine tn (CW.ret (rr rfl (.cons rfl .nil) ?_))
  have hM6 : (g_internal_stringslite_HasPrefix p_s p_prefix) = ((p_s.take p_prefix.length) == p_prefix) := by simp only [g_internal_stringslite_HasPrefix, hb5, cL]
  rw [hM6]
  exact ⟨rfl, (Ex.refl w)⟩
 ·have hb5p := dec_f hb5
  refine sz rfl rfl hb5 (sz rfl rfl hb5 (sz rfl rfl hb5 (sz rfl rfl hb5 (sz rfl rfl hb5 (sz rfl rfl hb5 (sd rfl (yl_pick_f rfl rfl hb5 rfl (sd rfl (yl_assign rfl rfl (SeqR.done ?_))))))))))
  refine tn (CW.ret (rr rfl (.cons rfl .nil) ?_))
  have hM7 : (g_internal_stringslite_HasPrefix p_s p_prefix) = (false) := by simp only [g_internal_stringslite_HasPrefix, hb5, cL]
  rw [hM7]
  exact ⟨rfl, (Ex.refl w)⟩
theorem c_g_internal_stringslite_CutPrefix {w : World} (p_s : Str) (p_prefix : Str) (o1 : okS p_s) (o2 : okS p_prefix) : Cal Tryz.prog 101 #[.string (bs (p_s)), .string (bs (p_prefix))] w fun v w' => v = .tuple #[.string (bs ((g_internal_stringslite_CutPrefix p_s p_prefix).1)), .bool ((g_internal_stringslite_CutPrefix p_s p_prefix).2)] ∧ okS ((g_internal_stringslite_CutPrefix p_s p_prefix).1) ∧ Ex w w' := by
 have hol3 : p_s.length ≤ 1073741824 := o1
 have hol4 : p_prefix.length ≤ 1073741824 := o2
 refine Cal.of func101 rfl ntmps101 rfl (CW.seq (CW.region (sd rfl (yl_assign rfl rfl (sd rfl (yl_assign rfl rfl (dn (CW.seq (CW.seq ?_)))))))))
 refine CW.region (sd rfl (yl_move rfl rfl (sd rfl (yl_move rfl rfl (sd rfl (yl_call en108 rfl (oc rfl (oc rfl oz)) (Cal.mono (c_g_internal_stringslite_HasPrefix p_s p_prefix o1 o2) ?_)))))))
 rintro v6 w5 ⟨rfl, hE7⟩
 have hE7z := Ex.size hE7
 refine sd rfl (yl_not rfl rfl (dn (bcase (g_internal_stringslite_HasPrefix p_s p_prefix) (fun hb8 => ?_) (fun hb8 => ?_))))
 ·have hb8p := f_HasPrefix hb8
  refine CW.cond_f rfl (not_t hb8) (CW.skip (tn (CW.seq (CW.region (sd rfl (yl_move rfl rfl (sd rfl (yl_move rfl rfl (sd rfl (yl_slen un9 (a := p_prefix) rfl rfl (sd rfl (yl_sslice_lo un9 (a := p_s) (l := p_prefix.length) rfl rfl rfl (by omega) ?_))))))))))))
  refine sd rfl (yl_assign rfl rfl (sd rfl (yl_assign rfl rfl (dn (CW.ret (rr rfl (.cons rfl (.cons rfl .nil)) ?_))))))
  have hM9 : (g_internal_stringslite_CutPrefix p_s p_prefix) = (((p_s.drop p_prefix.length), true)) := by simp only [g_internal_stringslite_CutPrefix, hb8, cL]
  rw [hM9]
  exact ⟨rfl, (okS.drop o1 _), (Ex.trans (Ex.refl w) hE7)⟩
 ·refine CW.cond_t rfl (not_f hb8) (CW.seq (CW.region (sd rfl (yl_move rfl rfl (sd rfl (yl_assign rfl rfl (sd rfl (yl_assign rfl rfl (dn (CW.ret ?_))))))))))
  refine tr (rr rfl (.cons rfl (.cons rfl .nil)) ?_)
  have hM11 : (g_internal_stringslite_CutPrefix p_s p_prefix) = ((p_s, false)) := by simp only [g_internal_stringslite_CutPrefix, hb8, cL]
  rw [hM11]
  exact ⟨rfl, o1, (Ex.trans (Ex.refl w) hE7)⟩
theorem c_g_strings_CutPrefix {w : World} (p_s : Str) (p_prefix : Str) (o1 : okS p_s) (o2 : okS p_prefix) : Cal Tryz.prog 90 #[.string (bs (p_s)), .string (bs (p_prefix))] w fun v w' => v = .tuple #[.string (bs ((g_strings_CutPrefix p_s p_prefix).1)), .bool ((g_strings_CutPrefix p_s p_prefix).2)] ∧ okS ((g_strings_CutPrefix p_s p_prefix).1) ∧ Ex w w' := by
 refine Cal.of func90 rfl ntmps90 rfl (CW.seq (CW.region (sd rfl (yl_assign rfl rfl (sd rfl (yl_assign rfl rfl (dn (CW.seq (CW.region ?_)))))))))
 refine sd rfl (yl_move rfl rfl (sd rfl (yl_move rfl rfl (sd rfl (yl_call en101 rfl (oc rfl (oc rfl oz)) (Cal.mono (c_g_internal_stringslite_CutPrefix p_s p_prefix o1 o2) ?_))))))
 rintro v7 w5 ⟨rfl, ho6, hE8⟩
 refine sd rfl (yl_extract rfl rfl rfl (sd rfl (yl_extract rfl rfl rfl (sd rfl (yl_assign rfl rfl (sd rfl (yl_assign rfl rfl (dn (CW.ret (rr rfl (.cons rfl (.cons rfl .nil)) ?_))))))))))
 have hM9 : (g_strings_CutPrefix p_s p_prefix) = (((g_internal_stringslite_CutPrefix p_s p_prefix).1, (g_internal_stringslite_CutPrefix p_s p_prefix).2)) := by simp only [g_strings_CutPrefix, cL]
 rw [hM9]
 exact ⟨rfl, ho6, (Ex.trans (Ex.refl w) hE8)⟩
theorem c_g_slices_ContainsFunc_string {A1 : Option Addr} {c1 : Nat} {g3 : Nat} {cp4 : List Value} {w : World} (p_s : List Str) (p_f : Str → Bool) (h1 : RdS w (Iv 0 w.heap.size) (RF e_Str) 1 A1 p_s.length c1 p_s) (hen5 : Go.X.Enters Tryz.prog g3) (hfn6 : ∀ (w1 : World) (y0 : Str), Ex w w1 → y0 ∈ p_s → okS y0 → Cal Tryz.prog g3 (([.string (bs (y0))] : List Value) ++ cp4).toArray w1 fun v w2 => v = .bool (p_f y0) ∧ Ex w1 w2) (o2 : (okL okS) p_s) : Cal Tryz.prog 105 #[.slice A1 p_s.length c1, .func (.func g3) #[] cp4.toArray] w fun v w' => v = .bool ((g_slices_ContainsFunc_string p_s p_f)) ∧ Ex w w' := by
 refine Cal.of func105 rfl ntmps105 rfl (CW.seq (CW.region (sd rfl (yl_assign rfl rfl (dn (CW.seq (CW.region (sd rfl (yl_move rfl rfl ?_)))))))))
 refine sd rfl (yl_move rfl rfl (sd rfl (yl_call en85 rfl (oc rfl (oc rfl oz)) (Cal.mono (c_g_slices_IndexFunc_string p_s p_f (RdS.up h1 good_Str) hen5 (fun w1 y0 => fun hE => hfn6 w1 y0 (Ex.trans (Ex.refl w) hE)) o2) ?_))))
 rintro v9 w8 ⟨rfl, hE10⟩
 refine sd rfl (yl_geq rfl rfl rfl (sd rfl (yl_assign rfl rfl (dn (CW.ret (rr rfl (.cons rfl .nil) ?_))))))
 have hM11 : (g_slices_ContainsFunc_string p_s p_f) = (decide (0 ≤ (g_slices_IndexFunc_string p_s p_f))) := by simp only [g_slices_ContainsFunc_string, cL]
 rw [hM11]
 exact ⟨rfl, (Ex.trans (Ex.refl w) hE10)⟩
theorem c_i_isField {w : World} (p_s : Str) (o1 : okS p_s) : Cal Tryz.prog 92 #[.string (bs (p_s))] w fun v w' => v = .bool ((i_isField p_s)) ∧ Ex w w' := by
 refine Cal.of func92 rfl ntmps92 rfl (CW.seq (CW.region (sd rfl (yl_assign rfl rfl (dn (CW.seq (CW.region (sd rfl (yl_move rfl rfl ?_)))))))))
 refine sd rfl (yl_slen un9 (a := p_s) rfl rfl (sd rfl (yl_call en76 rfl (oc rfl (oc rfl (oc rfl oz))) (Cal.mono (c_i_within (p_s.length : Int) 1 3) ?_))))
 rintro v4 w3 ⟨rfl, hE5⟩
 refine sd rfl (yl_move rfl rfl (bcase (i_within (p_s.length : Int) 1 3) (fun hb6 => ?_) (fun hb6 => ?_)))
 ·have hb6p := f_within hb6
  refine sy rfl rfl hb6 (yl_move rfl rfl (sy rfl rfl hb6 (yl_call en103 rfl (oc rfl (oc rfl oz)) (Cal.mono (c_i_hasBytes p_s ([] : Str) o1 (okS.lit rfl)) ?_))))
  rintro v8 w7 ⟨rfl, hE9⟩
  refine sd rfl (yl_pick_t rfl rfl hb6 rfl (sd rfl (yl_assign rfl rfl (dn (CW.ret (rr rfl (.cons rfl .nil) ?_))))))
  have hM10 : (i_isField p_s) = ((i_hasBytes p_s ([] : Str))) := by simp only [i_isField, hb6, cL]
  rw [hM10]
  exact ⟨rfl, (Ex.trans (Ex.trans (Ex.refl w) hE5) hE9)⟩
 ·refine sz rfl rfl hb6 (sz rfl rfl hb6 (sd rfl (yl_pick_f rfl rfl hb6 rfl (sd rfl (yl_assign rfl rfl (dn (CW.ret (rr rfl (.cons rfl .nil) ?_))))))))
  have hM13 : (i_isField p_s) = (false) := by simp only [i_isField, hb6, cL]
  rw [hM13]
  exact ⟨rfl, (Ex.trans (Ex.refl w) hE5)⟩
theorem c_i_Table_isRow_c1 {w : World} (p_s : Str) (o1 : okS p_s) : Cal Tryz.prog 106 #[.string (bs (p_s))] w fun v w' => v = .bool ((i_Table_isRow_c1 p_s)) ∧ Ex w w' := by
 refine Cal.of func106 rfl ntmps106 rfl (CW.seq (CW.region (sd rfl (yl_assign rfl rfl (dn (CW.seq (CW.region (sd rfl (yl_move rfl rfl ?_)))))))))
 refine sd rfl (yl_call en92 rfl (oc rfl oz) (Cal.mono (c_i_isField p_s o1) ?_))
 rintro v4 w3 ⟨rfl, hE5⟩
 refine sd rfl (yl_not rfl rfl (sd rfl (yl_assign rfl rfl (dn (CW.ret (rr rfl (.cons rfl .nil) ?_))))))
 have hM6 : (i_Table_isRow_c1 p_s) = (!(i_isField p_s)) := by simp only [i_Table_isRow_c1, cL]
 rw [hM6]
 exact ⟨rfl, (Ex.trans (Ex.refl w) hE5)⟩
theorem c_i_Table_isRow {A1 : Option Addr} {c1 : Nat} {A2 : Option Addr} {c2 : Nat} {A4 : Option Addr} {c4 : Nat} {w : World} (p_t : DTable) (p_r : DRow) (h1 : RdS w (Iv 0 w.heap.size) (RF e_Str) 1 A1 p_t.Cols.length c1 p_t.Cols) (h2 : RdS w (Iv 0 w.heap.size) (RF e_Idx) 3 A2 p_t.Idxs.length c2 p_t.Idxs) (h4 : RdS w (Iv 0 w.heap.size) (RF e_Str) 1 A4 p_r.Vals.length c4 p_r.Vals) (o3 : ok_Table p_t) (o5 : ok_Row p_r) : Cal Tryz.prog 99 #[.agg #[.string (bs (p_t.Name)), .slice A1 p_t.Cols.length c1, .slice A2 p_t.Idxs.length c2], .agg #[.slice A4 p_r.Vals.length c4]] w fun v w' => v = .bool ((i_Table_isRow p_t p_r)) ∧ Ex w w' := by
 refine Cal.of func99 rfl ntmps99 rfl (CW.seq (CW.region (sd rfl (yl_box rfl rfl rfl ?_))))
 intro b10 w11 hs12 hz13 hB14 hE15
 refine sd rfl (yl_box rfl rfl rfl ?_)
 intro b16 w17 hs18 hz19 hB20 hE21
 refine sd rfl (yl_assign rfl rfl (dn (CW.seq (CW.region (sd rfl (yl_fieldAddr fd70_0 rfl rfl (sd rfl (yl_load1 ty22 rfl rfl ((hB20.cell 0).trans rfl) (sd rfl (yl_len un22 rfl rfl (sd rfl (yl_fieldAddr fd33_1 rfl rfl ?_))))))))))))
 refine sd rfl (yl_load1 ty22 rfl rfl (((Box.ex hB14 hE21).cell 1).trans rfl) (sd rfl (yl_len un22 rfl rfl (sd rfl (yl_eql rfl rfl rfl (sd rfl (yl_move rfl rfl (bcase (decide ((p_r.Vals.length : Int) = (p_t.Cols.length : Int))) (fun hb23 => ?_) (fun hb23 => ?_)))))))))
 ·have hb23p := dec_t hb23
  refine sy rfl rfl hb23 (yl_fieldAddr fd70_0 rfl rfl (sy rfl rfl hb23 (yl_load1 ty22 rfl rfl ((hB20.cell 0).trans rfl) (sy rfl rfl hb23 (yl_call en105 rfl (oc rfl (oc rfl oz)) (Cal.mono (c_g_slices_ContainsFunc_string p_r.Vals (fun y0 => i_Table_isRow_c1 y0) (RdS.up (RdS.ex good_Str (RdS.ex good_Str h4 hE15) hE21) good_Str) en106 (fun _ y0 => fun hE hm0 ov0 => c_i_Table_isRow_c1 y0 ov0) o5) ?_))))))
  rintro v27 w26 ⟨rfl, hE28⟩
  refine sy rfl rfl hb23 (yl_not rfl rfl (sd rfl (yl_pick_t rfl rfl hb23 rfl (sd rfl (yl_assign rfl rfl (dn (CW.ret (rr rfl (.cons rfl .nil) ?_))))))))
  have hM29 : (i_Table_isRow p_t p_r) = (!(g_slices_ContainsFunc_string p_r.Vals (fun y0 => i_Table_isRow_c1 y0))) := by simp only [i_Table_isRow, hb23, cL]
  rw [hM29]
  exact ⟨rfl, (Ex.trans (Ex.trans (Ex.trans (Ex.refl w) hE15) hE21) hE28)⟩
 ·have hb23p := dec_f hb23
  refine sz rfl rfl hb23 (sz rfl rfl hb23 (sz rfl rfl hb23 (sz rfl rfl hb23 (sd rfl (yl_pick_f rfl rfl hb23 rfl (sd rfl (yl_assign rfl rfl (dn (CW.ret ?_)))))))))
  refine rr rfl (.cons rfl .nil) ?_
  have hM33 : (i_Table_isRow p_t p_r) = (false) := by simp only [i_Table_isRow, hb23, cL]
  rw [hM33]
  exact ⟨rfl, (Ex.trans (Ex.trans (Ex.refl w) hE15) hE21)⟩
theorem c_i_Table_rowWrite {A1 : Option Addr} {c1 : Nat} {A2 : Option Addr} {c2 : Nat} {A4 : Option Addr} {c4 : Nat} {w : World} (p_t : DTable) (p_r : DRow) (h1 : RdS w (Iv 0 w.heap.size) (RF e_Str) 1 A1 p_t.Cols.length c1 p_t.Cols) (h2 : RdS w (Iv 0 w.heap.size) (RF e_Idx) 3 A2 p_t.Idxs.length c2 p_t.Idxs) (h4 : RdS w (Iv 0 w.heap.size) (RF e_Str) 1 A4 p_r.Vals.length c4 p_r.Vals) (o3 : ok_Table p_t) (o5 : ok_Row p_r) (pre0 : 0 < p_r.Vals.length) (pre1 : p_r.Vals.length ≤ 4) (pre2 : rowShort p_r) : Cal Tryz.prog 100 #[.agg #[.string (bs (p_t.Name)), .slice A1 p_t.Cols.length c1, .slice A2 p_t.Idxs.length c2], .agg #[.slice A4 p_r.Vals.length c4]] w fun v w' => v = .agg #[.string (bs ((i_Table_rowWrite p_t p_r).Key)), .string (bs ((i_Table_rowWrite p_t p_r).Val)), .bool ((i_Table_rowWrite p_t p_r).Gone)] ∧ Ex w w' := by
 have hol6 : p_t.Name.length ≤ 1073741824 := o3.1
 have hol7 := o3.2.1.1
 have hol8 := o3.2.2.1
 have hol9 := o5.1
 refine Cal.of func100 rfl ntmps100 rfl (CW.seq (CW.region (sd rfl (yl_box rfl rfl rfl ?_))))
 intro b10 w11 hs12 hz13 hB14 hE15
 refine sd rfl (yl_box rfl rfl rfl ?_)
 intro b16 w17 hs18 hz19 hB20 hE21
 refine sd rfl (yl_alloc ty53 (cs := [.string (bs (([] : Str))), .string (bs (([] : Str))), .bool (false)]) rfl rfl ?_)
 intro b22 w23 hs24 hz25 hB26 hE27
 refine dn (CW.seq ?_)
 have hol30 : p_t.Name.length ≤ 1073741824 := o3.1
 have q31 := Box.ex hB20 hE27
 have q34 := RdS.ex good_Str (RdS.ex good_Str (RdS.ex good_Str h4 hE15) hE21) hE27
 obtain ⟨eb35, eo35, _, eA35, _, ebl35, _, eR35, eC35⟩ := RdS.aD q34 d_Str (i := 0)
 obtain rfl := eR35
 have eC35 : Cells w23 eb35 (eo35 + 0 * 1) [.string (bs ((p_r.Vals.getD 0 d_Str)))] := eC35
 have hol36 : p_t.Name.length ≤ 1073741824 := o3.1
 have hol37 : (p_r.Vals.getD 0 d_Str).length ≤ 1073741824 := (okL.getD o5 ok_d_Str _)
 obtain ⟨A38, c39, he42, h41⟩ := RdS.sl (RdS.drop q34 (k := 1) (by omega))
 have hrc43 := (q34).2.1
 refine CW.drawsI 12 (vgetI [DetI (.pointer (some ⟨b10, 0 + 0, none⟩)), DetI (.string (bs (p_t.Name))), DetI (.string (bs (p_t.Name ++ ([47] : Str)))), DetI (.pointer (some ⟨b16, 0 + 0, none⟩)), DetI (.slice A4 p_r.Vals.length c4), DetI (.pointer (some ⟨eb35, eo35 + 0 * 1, none⟩)), DetI (.string (bs ((p_r.Vals.getD 0 d_Str)))), DetI (.string (bs ((p_t.Name ++ ([47] : Str)) ++ (p_r.Vals.getD 0 d_Str)))), DetI (.pointer (some ⟨b16, 0 + 0, none⟩)), DetI (.slice A4 p_r.Vals.length c4), fun lo hi v wq => ∃ A38 c39, v = .slice A38 ((p_r.Vals.drop 1).length) c39 ∧ RdS wq (Iv 0 w.heap.size) (RF e_Str) 1 A38 (p_r.Vals.drop 1).length c39 (p_r.Vals.drop 1), fun lo hi v wq => v = .string (bs ((g_strings_Join (p_r.Vals.drop 1) ([44] : Str)))) ∧ okS (g_strings_Join (p_r.Vals.drop 1) ([44] : Str))]) Tryz.follows rfl rfl rfl rfl rfl rfl (vgetI_stable ⟨StableI.det _, StableI.det _, StableI.det _, StableI.det _, StableI.det _, StableI.det _, StableI.det _, StableI.det _, StableI.det _, StableI.det _, (fun _ _ _ _ _ ⟨A38, c39, hv, h44⟩ e => ⟨A38, c39, hv, RdS.ex good_Str h44 e⟩), (fun _ _ _ _ _ ⟨hv, ho46⟩ e => ⟨hv, ho46⟩), trivial⟩) ⟨?_, ?_, ?_, ?_, ?_, ?_, ?_, ?_, ?_, ?_, ?_, ?_, trivial⟩ ?_
 ·exact oI rfl fun h => yl_fieldAddr fd33_0 rfl (h.old 2 _ rfl rfl) kI
 ·exact oI rfl fun h => yl_load1 ty9 rfl (h.dt 0 5 rfl rfl rfl) (((Box.ex (Box.ex (Box.ex hB14 hE21) hE27) h.ex).cell 0).trans rfl) kI
 ·intro L58 w59 hi60
  have hE61 := hi60.ex
  have hE61z := Ex.size hE61
  have hol63 : p_t.Name.length ≤ 1073741824 := o3.1
  exact os rfl ((yl_sadd (a := p_t.Name) (b := ([47] : Str)) rfl (hi60.dt 1 6 rfl rfl rfl) rfl (by first | omega | (simp only [List.length_append, List.length_cons, List.length_nil, List.length_take, List.length_drop, toS_length]; omega)) kI))
 ·exact oI rfl fun h => yl_fieldAddr fd70_0 rfl (h.old 3 _ rfl rfl) kI
 ·exact oI rfl fun h => yl_load1 ty22 rfl (h.dt 3 8 rfl rfl rfl) (((Box.ex q31 h.ex).cell 0).trans rfl) kI
 ·intro L75 w76 hi77
  have hE78 := hi77.ex
  have hE78z := Ex.size hE78
  exact os rfl ((yl_ixN un22 ty9 rfl (hi77.dt 4 9 rfl rfl rfl) rfl eA35 kI))
 ·exact oI rfl fun h => yl_load1 ty9 rfl (h.dt 5 10 rfl rfl rfl) ((Cells.ex eC35 h.ex) 0 _ rfl) kI
 ·intro L86 w87 hi88
  have hE89 := hi88.ex
  have hE89z := Ex.size hE89
  have hol92 : p_t.Name.length ≤ 1073741824 := o3.1
  have hol93 : (p_r.Vals.getD 0 d_Str).length ≤ 1073741824 := (okL.getD o5 ok_d_Str _)
  exact os rfl ((yl_sadd (a := (p_t.Name ++ ([47] : Str))) (b := (p_r.Vals.getD 0 d_Str)) rfl (hi88.dt 2 7 rfl rfl rfl) (hi88.dt 6 11 rfl rfl rfl) (by first | omega | (simp only [List.length_append, List.length_cons, List.length_nil, List.length_take, List.length_drop, toS_length]; omega)) kI))
 ·exact oI rfl fun h => yl_fieldAddr fd70_0 rfl (h.old 3 _ rfl rfl) kI
 ·exact oI rfl fun h => yl_load1 ty22 rfl (h.dt 8 13 rfl rfl rfl) (((Box.ex q31 h.ex).cell 0).trans rfl) kI
 ·intro L105 w106 hi107
  have hE108 := hi107.ex
  have hE108z := Ex.size hE108
  have q110 := RdS.ex good_Str q34 hE108
  obtain ⟨A111, c112, he115, h114⟩ := RdS.sl (RdS.drop q110 (k := 1) (by omega))
  have hrc116 := (q110).2.1
  exact os rfl ((yl_sliceR (kh := .i64) (l := 1) (h := p_r.Vals.length) un22 ty9 rfl (hi107.dt 9 14 rfl rfl rfl) (.inr ⟨_, rfl, rfl⟩) (.inl ⟨rfl, rfl⟩) (by omega) (by omega) he115 ⟨fun _ _ => ⟨A111, c112, rfl, h114⟩, rfl⟩))
 ·intro L117 w118 hi119
  obtain ⟨lo122, hh123, _, hx121, hr124, hr125, hr126, A38_127, c39_128, rfl, h129⟩ := hi119.dep 10 15 rfl rfl
  refine OpR.op' rfl (yl_call en107 rfl (oc hx121 (oc rfl oz)) (Cal.mono (c_g_strings_Join (p_r.Vals.drop 1) ([44] : Str) (RdS.up h129 good_Str) (okL.drop o5 _) (okS.lit rfl) (join_drop pre1 pre2)) ?_))
  rintro v132 w130 ⟨rfl, ho131, hE133⟩
  exact ⟨⟨rfl, ho131⟩, hE133⟩
 ·intro fl137 fh138 L134 w135 hp136
  have hE139 := hp136.ex
  have hE139z := Ex.size hE139
  have hx140 := hp136.old 4 _ rfl rfl
  obtain ⟨_, hx142, rfl, h143⟩ := hp136.new 11 16 rfl rfl
  refine sd rfl (yl_build (cs := [.string (bs ((p_t.Name ++ ([47] : Str)) ++ (p_r.Vals.getD 0 d_Str))), .string (bs ((g_strings_Join (p_r.Vals.drop 1) ([44] : Str)))), .bool (false)]) rfl (oc (hp136.nt 7 12 rfl rfl rfl) (oc hx142 oz)) (by kernel_rfl) (SeqR.u rfl rfl (yl_store (vs := [.string (bs ((p_t.Name ++ ([47] : Str)) ++ (p_r.Vals.getD 0 d_Str))), .string (bs ((g_strings_Join (p_r.Vals.drop 1) ([44] : Str)))), .bool (false)]) ty53 rfl hx140 rfl rfl rfl rfl (Box.ex hB26 hE139) (Nat.le_of_ble_eq_true rfl) ?_)))
  intro w145 hB146 hO147
  have hB146 : Box w145 b22 53 [.string (bs ((p_t.Name ++ ([47] : Str)) ++ (p_r.Vals.getD 0 d_Str))), .string (bs ((g_strings_Join (p_r.Vals.drop 1) ([44] : Str)))), .bool (false)] := hB146
  have hO147z := hO147.size
  refine dn (CW.sub (Sub.cons (d := 4) hx140 (Sub.nil _)) (CW.ret (rr rfl (.cons ⟨_, rfl, run_loadN ty53 (cs := [.string (bs ((p_t.Name ++ ([47] : Str)) ++ (p_r.Vals.getD 0 d_Str))), .string (bs ((g_strings_Join (p_r.Vals.drop 1) ([44] : Str)))), .bool (false)]) rfl (hB146.cells (n := 3) rfl)⟩ .nil) ?_)))
  have hM148 : (i_Table_rowWrite p_t p_r) = ((⟨(p_t.Name ++ ([47] : Str)) ++ (p_r.Vals.getD 0 d_Str), (g_strings_Join (p_r.Vals.drop 1) ([44] : Str)), false⟩ : DWrite)) := by simp only [i_Table_rowWrite, cL]
  rw [hM148]
  exact ⟨rfl, (Below.only (Ex.trans (Ex.trans (Ex.trans (Ex.trans (Ex.refl w) hE15) hE21) hE27) hE139) hO147 (by omega))⟩
theorem c_i_Table_readRow {A1 : Option Addr} {c1 : Nat} {A2 : Option Addr} {c2 : Nat} {w : World} (p_t : DTable) (p_w : DWrite) (h1 : RdS w (Iv 0 w.heap.size) (RF e_Str) 1 A1 p_t.Cols.length c1 p_t.Cols) (h2 : RdS w (Iv 0 w.heap.size) (RF e_Idx) 3 A2 p_t.Idxs.length c2 p_t.Idxs) (o3 : ok_Table p_t) (o4 : ok_Write p_w) (pre0 : s_GoodTable p_t = true) : Cal Tryz.prog 87 #[.agg #[.string (bs (p_t.Name)), .slice A1 p_t.Cols.length c1, .slice A2 p_t.Idxs.length c2], .agg #[.string (bs (p_w.Key)), .string (bs (p_w.Val)), .bool (p_w.Gone)]] w fun v w' => ∃ A_1 c_1 lo_1 hi_1, v = .tuple #[.agg #[.slice A_1 (((i_Table_readRow p_t p_w).1.Vals).length) c_1], .bool ((i_Table_readRow p_t p_w).2)] ∧ OwnL w' lo_1 hi_1 9 1 (RF e_Str) A_1 (((i_Table_readRow p_t p_w).1.Vals).length) c_1 ((i_Table_readRow p_t p_w).1.Vals) ∧ ok_Row ((i_Table_readRow p_t p_w).1) ∧ (w.heap.size ≤ lo_1 ∧ lo_1 ≤ hi_1 ∧ hi_1 ≤ w'.heap.size) ∧ Ex w w' := by
 have hol5 : p_t.Name.length ≤ 1073741824 := o3.1
 have hol6 := o3.2.1.1
 have hol7 := o3.2.2.1
 have hol8 : p_w.Key.length ≤ 1073741824 := o4.1
 have hol9 : p_w.Val.length ≤ 1073741824 := o4.2
 have hgt := f_s_GoodTable pre0
 have hgn := gt_name pre0
 refine Cal.of func87 rfl ntmps87 rfl (CW.seq (CW.region (sd rfl (yl_box rfl rfl rfl ?_))))
 intro b10 w11 hs12 hz13 hB14 hE15
 refine sd rfl (yl_box rfl rfl rfl ?_)
 intro b16 w17 hs18 hz19 hB20 hE21
 refine sd rfl (yl_alloc ty70 (cs := [.slice none 0 0]) rfl rfl ?_)
 intro b22 w23 hs24 hz25 hB26 hE27
 refine sd rfl (yl_assign rfl rfl (dn (CW.seq (CW.region (sd rfl (yl_fieldAddr fd53_0 rfl rfl ?_))))))
 have q28 := Box.ex hB20 hE27
 refine sd rfl (yl_load1 ty9 rfl rfl ((q28.cell 0).trans rfl) (sd rfl (yl_fieldAddr fd33_0 rfl rfl ?_)))
 have q30 := Box.ex (Box.ex hB14 hE21) hE27
 refine sd rfl (yl_load1 ty9 rfl rfl ((q30.cell 0).trans rfl) ?_)
 have hol31 : p_t.Name.length ≤ 1073741824 := o3.1
 refine sd rfl (yl_sadd (a := p_t.Name) (b := ([47] : Str)) rfl rfl rfl (by first | omega | (simp only [List.length_append, List.length_cons, List.length_nil, List.length_take, List.length_drop, toS_length]; omega)) (sd rfl (yl_call en90 rfl (oc rfl (oc rfl oz)) (Cal.mono (c_g_strings_CutPrefix p_w.Key (p_t.Name ++ ([47] : Str)) o4.1 (okS_nm hgn)) ?_))))
 rintro v34 w32 ⟨rfl, ho33, hE35⟩
 have hE35z := Ex.size hE35
 refine sd rfl (yl_move rfl rfl (sd rfl (yl_extract rfl rfl rfl (sd rfl (yl_extract rfl rfl rfl (sd rfl (yl_assign rfl rfl (sd rfl (yl_assign rfl rfl (dn (CW.seq (CW.region ?_))))))))))))
 refine sd rfl (yl_move rfl rfl (sd rfl (yl_buildSlice (cs := [.string (bs ((g_strings_CutPrefix p_w.Key (p_t.Name ++ ([47] : Str))).1))]) un22 ty9 (by decide) rfl (oc rfl oz) (by kernel_rfl) ?_)))
 intro b36 w37 hs38 hz39 hB40 hE41
 have hO42 : OwnL w37 b36 (b36 + 1) 9 1 (RF e_Str) (some ⟨b36, 0, none⟩) 1 1 ([(g_strings_CutPrefix p_w.Key (p_t.Name ++ ([47] : Str))).1] : List Str) := OwnL.of_box (S := fun _ => False) hB40 (Nat.le_refl _) (Nat.lt_succ_self _) (EncL.cons (c := [.string (bs ((g_strings_CutPrefix p_w.Key (p_t.Name ++ ([47] : Str))).1))]) rfl rfl EncL.nil) (Nat.le_of_ble_eq_true rfl) (fun h => h) (fun _ h => False.elim h)
 refine sd rfl (yl_fieldAddr fd53_1 rfl rfl ?_)
 have q44 := Box.ex (Box.ex q28 hE35) hE41
 refine sd rfl (yl_load1 ty9 rfl rfl ((q44.cell 1).trans rfl) (sd rfl (yl_call en98 rfl (oc rfl (oc rfl oz)) (Cal.mono (c_g_strings_Split p_w.Val ([44] : Str) o4.2 (okS.lit rfl) rfl) ?_))))
 rintro v48 w45 ⟨A46, c46, lo46, hi46, rfl, h46, ho47, hrn50, hE49⟩
 have hE49z := Ex.size hE49
 have hrf51 := rf_Split p_w.Val ([44] : Str)
 obtain ⟨nw54, he55, hs56⟩ := RdS.src (OwnL.rd good_Str h46)
 have hol57 : (g_strings_Split p_w.Val ([44] : Str)).length ≤ 2147483648 := ho47.1
 refine sd rfl (yl_appendL (S := (fun _ => False)) (lo := b36) (hi := (b36 + 1)) (xs := ([(g_strings_CutPrefix p_w.Key (p_t.Name ++ ([47] : Str))).1] : List Str)) (ys := (g_strings_Split p_w.Val ([44] : Str))) good_Str un22 ty9 rfl (Nat.le_of_ble_eq_true rfl) rfl rfl rfl (OwnL.ex good_Str hO42 hE49) he55 hs56 rfl (by first | omega | (simp only [List.length_append, List.length_cons, List.length_nil, List.length_take, List.length_drop, List.length_replicate, List.length_set, toS_length]; omega)) (by first | omega | (simp only [List.length_append, List.length_cons, List.length_nil, List.length_take, List.length_drop, List.length_replicate, List.length_set, toS_length]; omega)) (by omega) (by omega) (fun _ h _ => False.elim h) (by omega) ?_)
 intro A58 c59 w60 row61 hO62 hG63 hrg64
 have hG63z := hG63.size
 refine sd rfl (yl_build (cs := [.slice A58 ((([(g_strings_CutPrefix p_w.Key (p_t.Name ++ ([47] : Str))).1] : List Str) ++ (g_strings_Split p_w.Val ([44] : Str))).length) c59]) rfl (oc rfl oz) (by kernel_rfl) (sd rfl (yl_alloc ty70 (cs := [.slice none 0 0]) rfl rfl ?_)))
 intro b65 w66 hs67 hz68 hB69 hE70
 refine SeqR.u rfl rfl (yl_store (vs := [.slice A58 ((([(g_strings_CutPrefix p_w.Key (p_t.Name ++ ([47] : Str))).1] : List Str) ++ (g_strings_Split p_w.Val ([44] : Str))).length) c59]) ty70 rfl rfl rfl rfl rfl rfl hB69 (Nat.le_of_ble_eq_true rfl) ?_)
 intro w71 hB72 hO73
 have hB72 : Box w71 b65 70 [.slice A58 ((([(g_strings_CutPrefix p_w.Key (p_t.Name ++ ([47] : Str))).1] : List Str) ++ (g_strings_Split p_w.Val ([44] : Str))).length) c59] := hB72
 have hO73z := hO73.size
 refine dn (CW.seq (CW.seq (bcase ((g_strings_CutPrefix p_w.Key (p_t.Name ++ ([47] : Str))).2) (fun hb74 => ?_) (fun hb74 => ?_))))
 ·have hol102 : (g_strings_Split p_w.Val ([44] : Str)).length ≤ 2147483648 := ho47.1
  refine bcase (i_Table_isRow p_t (⟨(([(g_strings_CutPrefix p_w.Key (p_t.Name ++ ([47] : Str))).1] : List Str) ++ (g_strings_Split p_w.Val ([44] : Str)))⟩ : DRow)) (fun hb104 => ?_) (fun hb104 => ?_)
  ·obtain ⟨hb104p0, hb104p1⟩ := f_i_isRow hb104
   have q110 := Box.only (Box.ex (Box.grown (Box.ex (Box.ex (Box.ex q30 hE35) hE41) hE49) hG63 (fun k hk => by have := hrg64 k hk; omega)) hE70) hO73 (by omega)
   have q119 := RdS.only good_Str (RdS.ex good_Str (RdS.grown good_Str (RdS.ex good_Str (RdS.ex good_Str (RdS.ex good_Str (RdS.ex good_Str (RdS.ex good_Str (RdS.ex good_Str h1 hE15) hE21) hE27) hE35) hE41) hE49) hG63 (fun k hk => by have := hrg64 k hk; simp only [Iv]; omega)) hE70) hO73 (by simp only [Iv]; omega)
   have q128 := RdS.only good_Idx (RdS.ex good_Idx (RdS.grown good_Idx (RdS.ex good_Idx (RdS.ex good_Idx (RdS.ex good_Idx (RdS.ex good_Idx (RdS.ex good_Idx (RdS.ex good_Idx h2 hE15) hE21) hE27) hE35) hE41) hE49) hG63 (fun k hk => by have := hrg64 k hk; simp only [Iv]; omega)) hE70) hO73 (by simp only [Iv]; omega)
   have q131 := OwnL.only good_Str (OwnL.ex good_Str hO62 hE70) hO73 (by omega)
   have hol132 : (g_strings_Split p_w.Val ([44] : Str)).length ≤ 2147483648 := ho47.1
   have hol139 : (g_strings_Split p_w.Val ([44] : Str)).length ≤ 2147483648 := ho47.1
   refine CW.drawsI 15 (vgetI ([.bool ((g_strings_CutPrefix p_w.Key (p_t.Name ++ ([47] : Str))).2), .bool (!((g_strings_CutPrefix p_w.Key (p_t.Name ++ ([47] : Str))).2)), .bool (!((g_strings_CutPrefix p_w.Key (p_t.Name ++ ([47] : Str))).2)), .agg #[.string (bs (p_t.Name)), .slice A1 p_t.Cols.length c1, .slice A2 p_t.Idxs.length c2], .agg #[.slice A58 ((([(g_strings_CutPrefix p_w.Key (p_t.Name ++ ([47] : Str))).1] : List Str) ++ (g_strings_Split p_w.Val ([44] : Str))).length) c59], .bool ((i_Table_isRow p_t (⟨(([(g_strings_CutPrefix p_w.Key (p_t.Name ++ ([47] : Str))).1] : List Str) ++ (g_strings_Split p_w.Val ([44] : Str)))⟩ : DRow))), .bool (!(i_Table_isRow p_t (⟨(([(g_strings_CutPrefix p_w.Key (p_t.Name ++ ([47] : Str))).1] : List Str) ++ (g_strings_Split p_w.Val ([44] : Str)))⟩ : DRow))), .bool (!(i_Table_isRow p_t (⟨(([(g_strings_CutPrefix p_w.Key (p_t.Name ++ ([47] : Str))).1] : List Str) ++ (g_strings_Split p_w.Val ([44] : Str)))⟩ : DRow))), .bool (!(i_Table_isRow p_t (⟨(([(g_strings_CutPrefix p_w.Key (p_t.Name ++ ([47] : Str))).1] : List Str) ++ (g_strings_Split p_w.Val ([44] : Str)))⟩ : DRow))), .agg #[.string (bs (p_w.Key)), .string (bs (p_w.Val)), .bool (p_w.Gone)], .agg #[.string (bs (p_t.Name)), .slice A1 p_t.Cols.length c1, .slice A2 p_t.Idxs.length c2], .agg #[.slice A58 ((([(g_strings_CutPrefix p_w.Key (p_t.Name ++ ([47] : Str))).1] : List Str) ++ (g_strings_Split p_w.Val ([44] : Str))).length) c59], .agg #[.string (bs ((i_Table_rowWrite p_t (⟨(([(g_strings_CutPrefix p_w.Key (p_t.Name ++ ([47] : Str))).1] : List Str) ++ (g_strings_Split p_w.Val ([44] : Str)))⟩ : DRow)).Key)), .string (bs ((i_Table_rowWrite p_t (⟨(([(g_strings_CutPrefix p_w.Key (p_t.Name ++ ([47] : Str))).1] : List Str) ++ (g_strings_Split p_w.Val ([44] : Str)))⟩ : DRow)).Val)), .bool ((i_Table_rowWrite p_t (⟨(([(g_strings_CutPrefix p_w.Key (p_t.Name ++ ([47] : Str))).1] : List Str) ++ (g_strings_Split p_w.Val ([44] : Str)))⟩ : DRow)).Gone)], .bool (!((p_w.Key == ((i_Table_rowWrite p_t (⟨(([(g_strings_CutPrefix p_w.Key (p_t.Name ++ ([47] : Str))).1] : List Str) ++ (g_strings_Split p_w.Val ([44] : Str)))⟩ : DRow)).Key)) && ((p_w.Val == ((i_Table_rowWrite p_t (⟨(([(g_strings_CutPrefix p_w.Key (p_t.Name ++ ([47] : Str))).1] : List Str) ++ (g_strings_Split p_w.Val ([44] : Str)))⟩ : DRow)).Val)) && (p_w.Gone == ((i_Table_rowWrite p_t (⟨(([(g_strings_CutPrefix p_w.Key (p_t.Name ++ ([47] : Str))).1] : List Str) ++ (g_strings_Split p_w.Val ([44] : Str)))⟩ : DRow)).Gone))))), .bool (!((p_w.Key == ((i_Table_rowWrite p_t (⟨(([(g_strings_CutPrefix p_w.Key (p_t.Name ++ ([47] : Str))).1] : List Str) ++ (g_strings_Split p_w.Val ([44] : Str)))⟩ : DRow)).Key)) && ((p_w.Val == ((i_Table_rowWrite p_t (⟨(([(g_strings_CutPrefix p_w.Key (p_t.Name ++ ([47] : Str))).1] : List Str) ++ (g_strings_Split p_w.Val ([44] : Str)))⟩ : DRow)).Val)) && (p_w.Gone == ((i_Table_rowWrite p_t (⟨(([(g_strings_CutPrefix p_w.Key (p_t.Name ++ ([47] : Str))).1] : List Str) ++ (g_strings_Split p_w.Val ([44] : Str)))⟩ : DRow)).Gone)))))].map DetI)) Tryz.follows rfl rfl rfl rfl rfl rfl (vgetI_stable (stD _)) ⟨?_, ?_, ?_, ?_, ?_, ?_, ?_, ?_, ?_, ?_, ?_, ?_, ?_, ?_, ?_, trivial⟩ ?_
   ·exact oI rfl fun h => yl_move rfl (h.old 7 _ rfl rfl) kI
   ·exact oI rfl fun h => yl_not rfl (h.dt 0 25 rfl rfl rfl) kI
   ·exact oI rfl fun h => yl_move rfl (h.dt 1 26 rfl rfl rfl) kI
   ·exact oW rfl rfl rfl rfl (not_t hb74) fun h => yl_loadN ty33 rfl (h.old 2 _ rfl rfl) ((Box.ex q110 h.ex).cells (n := 3) rfl) rfl kI
   ·exact oW rfl rfl rfl rfl (not_t hb74) fun h => yl_loadN ty70 rfl (h.old 8 _ rfl rfl) ((Box.ex hB72 h.ex).cells (n := 1) rfl) rfl kI
   ·intro L170 w171 hi172
    have hE173 := hi172.ex
    have hE173z := Ex.size hE173
    have hol181 : (g_strings_Split p_w.Val ([44] : Str)).length ≤ 2147483648 := ho47.1
    exact OpR.want rfl rfl (hi172.dt 2 27 rfl rfl rfl) (not_t hb74) (yl_call en99 rfl (oc (hi172.dt 3 28 rfl rfl rfl) (oc (hi172.dt 4 29 rfl rfl rfl) oz)) (Cal.mono (c_i_Table_isRow p_t (⟨(([(g_strings_CutPrefix p_w.Key (p_t.Name ++ ([47] : Str))).1] : List Str) ++ (g_strings_Split p_w.Val ([44] : Str)))⟩ : DRow) (RdS.up (RdS.ex good_Str q119 hE173) good_Str) (RdS.up (RdS.ex good_Idx q128 hE173) good_Idx) (RdS.up (OwnL.rd good_Str (OwnL.ex good_Str q131 hE173)) good_Str) o3 (okL.mk (xs := (([(g_strings_CutPrefix p_w.Key (p_t.Name ++ ([47] : Str))).1] : List Str) ++ (g_strings_Split p_w.Val ([44] : Str)))) (by first | omega | (simp only [List.length_append, List.length_cons, List.length_nil, List.length_take, List.length_drop, List.length_replicate, List.length_set, toS_length]; omega)) (okE.append ((okL.mk (Nat.le_of_ble_eq_true rfl) (okE.cons ho33 okE.nil))).2 (ho47).2))) fun _ _ h => h))
   ·exact oW rfl rfl rfl rfl (not_t hb74) fun h => yl_not rfl (h.dt 5 30 rfl rfl rfl) kI
   ·exact oI rfl fun h => yl_pick_f rfl (h.dt 2 27 rfl rfl rfl) (not_t hb74) (h.dt 6 31 rfl rfl rfl) kI
   ·exact oI rfl fun h => yl_move rfl (h.dt 7 32 rfl rfl rfl) kI
   ·intro L202 w203 hi204
    have hE205 := hi204.ex
    have hE205z := Ex.size hE205
    exact OpR.want rfl rfl (hi204.dt 8 33 rfl rfl rfl) (not_t hb104) (Yl.sameI (yl_loadN ty53 rfl (hi204.old 3 _ rfl rfl) ((Box.ex (Box.only (Box.ex (Box.grown (Box.ex q44 hE49) hG63 (fun k hk => by have := hrg64 k hk; omega)) hE70) hO73 (by omega)) hE205).cells (n := 3) rfl) rfl kI))
   ·exact oW rfl rfl rfl rfl (not_t hb104) fun h => yl_loadN ty33 rfl (h.old 2 _ rfl rfl) ((Box.ex q110 h.ex).cells (n := 3) rfl) rfl kI
   ·exact oW rfl rfl rfl rfl (not_t hb104) fun h => yl_loadN ty70 rfl (h.old 8 _ rfl rfl) ((Box.ex hB72 h.ex).cells (n := 1) rfl) rfl kI
   ·intro L223 w224 hi225
    have hE226 := hi225.ex
    have hE226z := Ex.size hE226
    have hol234 : (g_strings_Split p_w.Val ([44] : Str)).length ≤ 2147483648 := ho47.1
    exact OpR.want rfl rfl (hi225.dt 8 33 rfl rfl rfl) (not_t hb104) (yl_call en100 rfl (oc (hi225.dt 10 35 rfl rfl rfl) (oc (hi225.dt 11 36 rfl rfl rfl) oz)) (Cal.mono (c_i_Table_rowWrite p_t (⟨(([(g_strings_CutPrefix p_w.Key (p_t.Name ++ ([47] : Str))).1] : List Str) ++ (g_strings_Split p_w.Val ([44] : Str)))⟩ : DRow) (RdS.up (RdS.ex good_Str q119 hE226) good_Str) (RdS.up (RdS.ex good_Idx q128 hE226) good_Idx) (RdS.up (OwnL.rd good_Str (OwnL.ex good_Str q131 hE226)) good_Str) o3 (okL.mk (xs := (([(g_strings_CutPrefix p_w.Key (p_t.Name ++ ([47] : Str))).1] : List Str) ++ (g_strings_Split p_w.Val ([44] : Str)))) (by first | omega | (simp only [List.length_append, List.length_cons, List.length_nil, List.length_take, List.length_drop, List.length_replicate, List.length_set, toS_length]; omega)) (okE.append ((okL.mk (Nat.le_of_ble_eq_true rfl) (okE.cons ho33 okE.nil))).2 (ho47).2)) (by first | omega | assumption | (simp only [wI] at *; omega) | (simp only [List.length_append, List.length_cons, List.length_nil]; omega)) (by first | omega | assumption | (simp only [wI] at *; omega) | (simp only [List.length_append, List.length_cons, List.length_nil]; omega)) (by first | omega | assumption | (simp only [wI] at *; omega) | (simp only [List.length_append, List.length_cons, List.length_nil]; omega))) fun _ _ h => h))
   ·exact oW rfl rfl rfl rfl (not_t hb104) fun h => yl_aneq (xs := [.string (bs (p_w.Key)), .string (bs (p_w.Val)), .bool (p_w.Gone)]) (ys := [.string (bs ((i_Table_rowWrite p_t (⟨(([(g_strings_CutPrefix p_w.Key (p_t.Name ++ ([47] : Str))).1] : List Str) ++ (g_strings_Split p_w.Val ([44] : Str)))⟩ : DRow)).Key)), .string (bs ((i_Table_rowWrite p_t (⟨(([(g_strings_CutPrefix p_w.Key (p_t.Name ++ ([47] : Str))).1] : List Str) ++ (g_strings_Split p_w.Val ([44] : Str)))⟩ : DRow)).Val)), .bool ((i_Table_rowWrite p_t (⟨(([(g_strings_CutPrefix p_w.Key (p_t.Name ++ ([47] : Str))).1] : List Str) ++ (g_strings_Split p_w.Val ([44] : Str)))⟩ : DRow)).Gone)]) Tryz.ae53 rfl (h.dt 9 34 rfl rfl rfl) (h.dt 12 37 rfl rfl rfl) kI
   ·exact oI rfl fun h => yl_pick_f rfl (h.dt 8 33 rfl rfl rfl) (not_t hb104) (h.dt 13 38 rfl rfl rfl) kI
   ·intro fl254 fh255 L251 w252 hp253
    have hE256 := hp253.ex
    have hE256z := Ex.size hE256
    refine dn (CW.sub (Sub.cons (d := 4) (hp253.old 4 _ rfl rfl) (Sub.cons (d := 8) (hp253.old 8 _ rfl rfl) (Sub.cons (d := 39) (hp253.nt 14 39 rfl rfl rfl) (Sub.nil _)))) (bcase ((p_w.Key == ((i_Table_rowWrite p_t (⟨(([(g_strings_CutPrefix p_w.Key (p_t.Name ++ ([47] : Str))).1] : List Str) ++ (g_strings_Split p_w.Val ([44] : Str)))⟩ : DRow)).Key)) && ((p_w.Val == ((i_Table_rowWrite p_t (⟨(([(g_strings_CutPrefix p_w.Key (p_t.Name ++ ([47] : Str))).1] : List Str) ++ (g_strings_Split p_w.Val ([44] : Str)))⟩ : DRow)).Val)) && (p_w.Gone == ((i_Table_rowWrite p_t (⟨(([(g_strings_CutPrefix p_w.Key (p_t.Name ++ ([47] : Str))).1] : List Str) ++ (g_strings_Split p_w.Val ([44] : Str)))⟩ : DRow)).Gone)))) (fun hb260 => ?_) (fun hb260 => ?_)))
    ·refine CW.cond_f rfl (not_t hb260) (CW.skip (tn (CW.seq (CW.region (sd rfl (yl_loadN ty70 rfl rfl ((Box.ex hB72 hE256).cells (n := 1) rfl) rfl (SeqR.u rfl rfl (yl_store (vs := [.slice A58 ((([(g_strings_CutPrefix p_w.Key (p_t.Name ++ ([47] : Str))).1] : List Str) ++ (g_strings_Split p_w.Val ([44] : Str))).length) c59]) ty70 rfl rfl rfl rfl rfl rfl (Box.ex (Box.only (Box.ex (Box.grown (Box.ex (Box.ex (Box.ex hB26 hE35) hE41) hE49) hG63 (fun k hk => by have := hrg64 k hk; omega)) hE70) hO73 (by omega)) hE256) (Nat.le_of_ble_eq_true rfl) ?_))))))))
     intro w269 hB270 hO271
     have hB270 : Box w269 b22 70 [.slice A58 ((([(g_strings_CutPrefix p_w.Key (p_t.Name ++ ([47] : Str))).1] : List Str) ++ (g_strings_Split p_w.Val ([44] : Str))).length) c59] := hB270
     have hO271z := hO271.size
     refine sd rfl (yl_assign rfl rfl (dn (CW.ret (rr rfl (.cons ⟨_, rfl, run_loadN ty70 (cs := [.slice A58 ((([(g_strings_CutPrefix p_w.Key (p_t.Name ++ ([47] : Str))).1] : List Str) ++ (g_strings_Split p_w.Val ([44] : Str))).length) c59]) rfl (hB270.cells (n := 1) rfl)⟩ (.cons rfl .nil)) ?_))))
     have hM272 : (i_Table_readRow p_t p_w) = (((⟨(([(g_strings_CutPrefix p_w.Key (p_t.Name ++ ([47] : Str))).1] : List Str) ++ (g_strings_Split p_w.Val ([44] : Str)))⟩ : DRow), true)) := by simp only [i_Table_readRow, hb74, hb104, hb260, cL]
     have hol275 : (g_strings_Split p_w.Val ([44] : Str)).length ≤ 2147483648 := ho47.1
     rw [hM272]
     exact ⟨A58, c59, b36, w60.heap.size, rfl, (OwnL.only good_Str (OwnL.ex good_Str q131 hE256) hO271 (by omega)), (okL.mk (xs := (([(g_strings_CutPrefix p_w.Key (p_t.Name ++ ([47] : Str))).1] : List Str) ++ (g_strings_Split p_w.Val ([44] : Str)))) (by first | omega | (simp only [List.length_append, List.length_cons, List.length_nil, List.length_take, List.length_drop, List.length_replicate, List.length_set, toS_length]; omega)) (okE.append ((okL.mk (Nat.le_of_ble_eq_true rfl) (okE.cons ho33 okE.nil))).2 (ho47).2)), (by omega), (Below.only (Ex.trans (Below.only (Ex.trans (Below.grown (Ex.trans (Ex.trans (Ex.trans (Ex.trans (Ex.trans (Ex.trans (Ex.refl w) hE15) hE21) hE27) hE35) hE41) hE49) hG63 (by omega) (fun k hk => by have := hrg64 k hk; omega)) hE70) hO73 (by omega)) hE256) hO271 (by omega))⟩
    ·refine CW.cond_t rfl (not_f hb260) (CW.seq (CW.region (sd rfl (yl_build (cs := [.slice none 0 0]) rfl opvs_nil (by kernel_rfl) (SeqR.u rfl rfl (yl_store (vs := [.slice none 0 0]) ty70 rfl rfl rfl rfl rfl rfl (Box.ex (Box.only (Box.ex (Box.grown (Box.ex (Box.ex (Box.ex hB26 hE35) hE41) hE49) hG63 (fun k hk => by have := hrg64 k hk; omega)) hE70) hO73 (by omega)) hE256) (Nat.le_of_ble_eq_true rfl) ?_))))))
     intro w294 hB295 hO296
     have hB295 : Box w294 b22 70 [.slice none 0 0] := hB295
     have hO296z := hO296.size
     refine sd rfl (yl_assign rfl rfl (dn (CW.ret (tr (rr rfl (.cons ⟨_, rfl, run_loadN ty70 (cs := [.slice none 0 0]) rfl (hB295.cells (n := 1) rfl)⟩ (.cons rfl .nil)) ?_)))))
     have hM297 : (i_Table_readRow p_t p_w) = (((⟨[]⟩ : DRow), false)) := by simp only [i_Table_readRow, hb74, hb104, hb260, cL]
     rw [hM297]
     exact ⟨none, 0, w294.heap.size, w294.heap.size, rfl, (OwnL.nil _ _ _ _ _ _), (okL.nil _), (by omega), (Below.only (Ex.trans (Below.only (Ex.trans (Below.grown (Ex.trans (Ex.trans (Ex.trans (Ex.trans (Ex.trans (Ex.trans (Ex.refl w) hE15) hE21) hE27) hE35) hE41) hE49) hG63 (by omega) (fun k hk => by have := hrg64 k hk; omega)) hE70) hO73 (by omega)) hE256) hO296 (by omega))⟩
  ·have hol336 : (g_strings_Split p_w.Val ([44] : Str)).length ≤ 2147483648 := ho47.1
   refine CW.drawsI 15 (vgetI ([.bool ((g_strings_CutPrefix p_w.Key (p_t.Name ++ ([47] : Str))).2), .bool (!((g_strings_CutPrefix p_w.Key (p_t.Name ++ ([47] : Str))).2)), .bool (!((g_strings_CutPrefix p_w.Key (p_t.Name ++ ([47] : Str))).2)), .agg #[.string (bs (p_t.Name)), .slice A1 p_t.Cols.length c1, .slice A2 p_t.Idxs.length c2], .agg #[.slice A58 ((([(g_strings_CutPrefix p_w.Key (p_t.Name ++ ([47] : Str))).1] : List Str) ++ (g_strings_Split p_w.Val ([44] : Str))).length) c59], .bool ((i_Table_isRow p_t (⟨(([(g_strings_CutPrefix p_w.Key (p_t.Name ++ ([47] : Str))).1] : List Str) ++ (g_strings_Split p_w.Val ([44] : Str)))⟩ : DRow))), .bool (!(i_Table_isRow p_t (⟨(([(g_strings_CutPrefix p_w.Key (p_t.Name ++ ([47] : Str))).1] : List Str) ++ (g_strings_Split p_w.Val ([44] : Str)))⟩ : DRow))), .bool (!(i_Table_isRow p_t (⟨(([(g_strings_CutPrefix p_w.Key (p_t.Name ++ ([47] : Str))).1] : List Str) ++ (g_strings_Split p_w.Val ([44] : Str)))⟩ : DRow))), .bool (!(i_Table_isRow p_t (⟨(([(g_strings_CutPrefix p_w.Key (p_t.Name ++ ([47] : Str))).1] : List Str) ++ (g_strings_Split p_w.Val ([44] : Str)))⟩ : DRow))), undef, undef, undef, undef, undef, .bool (true)].map DetI)) Tryz.follows rfl rfl rfl rfl rfl rfl (vgetI_stable (stD _)) ⟨?_, ?_, ?_, ?_, ?_, ?_, ?_, ?_, ?_, ?_, ?_, ?_, ?_, ?_, ?_, trivial⟩ ?_
   ·exact oI rfl fun h => yl_move rfl (h.old 7 _ rfl rfl) kI
   ·exact oI rfl fun h => yl_not rfl (h.dt 0 25 rfl rfl rfl) kI
   ·exact oI rfl fun h => yl_move rfl (h.dt 1 26 rfl rfl rfl) kI
   ·intro L353 w354 hi355
    have hE356 := hi355.ex
    have hE356z := Ex.size hE356
    exact OpR.want rfl rfl (hi355.dt 2 27 rfl rfl rfl) (not_t hb74) (Yl.sameI (yl_loadN ty33 rfl (hi355.old 2 _ rfl rfl) ((Box.ex (Box.only (Box.ex (Box.grown (Box.ex (Box.ex (Box.ex q30 hE35) hE41) hE49) hG63 (fun k hk => by have := hrg64 k hk; omega)) hE70) hO73 (by omega)) hE356).cells (n := 3) rfl) rfl kI))
   ·exact oW rfl rfl rfl rfl (not_t hb74) fun h => yl_loadN ty70 rfl (h.old 8 _ rfl rfl) ((Box.ex hB72 h.ex).cells (n := 1) rfl) rfl kI
   ·intro L367 w368 hi369
    have hE370 := hi369.ex
    have hE370z := Ex.size hE370
    have hol378 : (g_strings_Split p_w.Val ([44] : Str)).length ≤ 2147483648 := ho47.1
    exact OpR.want rfl rfl (hi369.dt 2 27 rfl rfl rfl) (not_t hb74) (yl_call en99 rfl (oc (hi369.dt 3 28 rfl rfl rfl) (oc (hi369.dt 4 29 rfl rfl rfl) oz)) (Cal.mono (c_i_Table_isRow p_t (⟨(([(g_strings_CutPrefix p_w.Key (p_t.Name ++ ([47] : Str))).1] : List Str) ++ (g_strings_Split p_w.Val ([44] : Str)))⟩ : DRow) (RdS.up (RdS.ex good_Str (RdS.only good_Str (RdS.ex good_Str (RdS.grown good_Str (RdS.ex good_Str (RdS.ex good_Str (RdS.ex good_Str (RdS.ex good_Str (RdS.ex good_Str (RdS.ex good_Str h1 hE15) hE21) hE27) hE35) hE41) hE49) hG63 (fun k hk => by have := hrg64 k hk; simp only [Iv]; omega)) hE70) hO73 (by simp only [Iv]; omega)) hE370) good_Str) (RdS.up (RdS.ex good_Idx (RdS.only good_Idx (RdS.ex good_Idx (RdS.grown good_Idx (RdS.ex good_Idx (RdS.ex good_Idx (RdS.ex good_Idx (RdS.ex good_Idx (RdS.ex good_Idx (RdS.ex good_Idx h2 hE15) hE21) hE27) hE35) hE41) hE49) hG63 (fun k hk => by have := hrg64 k hk; simp only [Iv]; omega)) hE70) hO73 (by simp only [Iv]; omega)) hE370) good_Idx) (RdS.up (OwnL.rd good_Str (OwnL.ex good_Str (OwnL.only good_Str (OwnL.ex good_Str hO62 hE70) hO73 (by omega)) hE370)) good_Str) o3 (okL.mk (xs := (([(g_strings_CutPrefix p_w.Key (p_t.Name ++ ([47] : Str))).1] : List Str) ++ (g_strings_Split p_w.Val ([44] : Str)))) (by first | omega | (simp only [List.length_append, List.length_cons, List.length_nil, List.length_take, List.length_drop, List.length_replicate, List.length_set, toS_length]; omega)) (okE.append ((okL.mk (Nat.le_of_ble_eq_true rfl) (okE.cons ho33 okE.nil))).2 (ho47).2))) fun _ _ h => h))
   ·exact oW rfl rfl rfl rfl (not_t hb74) fun h => yl_not rfl (h.dt 5 30 rfl rfl rfl) kI
   ·exact oI rfl fun h => yl_pick_f rfl (h.dt 2 27 rfl rfl rfl) (not_t hb74) (h.dt 6 31 rfl rfl rfl) kI
   ·exact oI rfl fun h => yl_move rfl (h.dt 7 32 rfl rfl rfl) kI
   ·exact oS rfl rfl rfl rfl rfl (not_f hb104)
   ·exact oS rfl rfl rfl rfl rfl (not_f hb104)
   ·exact oS rfl rfl rfl rfl rfl (not_f hb104)
   ·exact oS rfl rfl rfl rfl rfl (not_f hb104)
   ·exact oS rfl rfl rfl rfl rfl (not_f hb104)
   ·exact oI rfl fun h => yl_pick_t rfl (h.dt 8 33 rfl rfl rfl) (not_f hb104) rfl kI
   ·intro fl433 fh434 L430 w431 hp432
    have hE435 := hp432.ex
    have hE435z := Ex.size hE435
    refine dn (CW.sub (Sub.cons (d := 4) (hp432.old 4 _ rfl rfl) (Sub.cons (d := 8) (hp432.old 8 _ rfl rfl) (Sub.cons (d := 39) (hp432.nt 14 39 rfl rfl rfl) (Sub.nil _)))) (CW.cond_t rfl rfl (CW.seq (CW.region (sd rfl (yl_build (cs := [.slice none 0 0]) rfl opvs_nil (by kernel_rfl) (SeqR.u rfl rfl (yl_store (vs := [.slice none 0 0]) ty70 rfl rfl rfl rfl rfl rfl (Box.ex (Box.only (Box.ex (Box.grown (Box.ex (Box.ex (Box.ex hB26 hE35) hE41) hE49) hG63 (fun k hk => by have := hrg64 k hk; omega)) hE70) hO73 (by omega)) hE435) (Nat.le_of_ble_eq_true rfl) ?_))))))))
    intro w446 hB447 hO448
    have hB447 : Box w446 b22 70 [.slice none 0 0] := hB447
    have hO448z := hO448.size
    refine sd rfl (yl_assign rfl rfl (dn (CW.ret (tr (rr rfl (.cons ⟨_, rfl, run_loadN ty70 (cs := [.slice none 0 0]) rfl (hB447.cells (n := 1) rfl)⟩ (.cons rfl .nil)) ?_)))))
    have hM449 : (i_Table_readRow p_t p_w) = (((⟨[]⟩ : DRow), false)) := by simp only [i_Table_readRow, hb74, hb104, cL]
    rw [hM449]
    exact ⟨none, 0, w446.heap.size, w446.heap.size, rfl, (OwnL.nil _ _ _ _ _ _), (okL.nil _), (by omega), (Below.only (Ex.trans (Below.only (Ex.trans (Below.grown (Ex.trans (Ex.trans (Ex.trans (Ex.trans (Ex.trans (Ex.trans (Ex.refl w) hE15) hE21) hE27) hE35) hE41) hE49) hG63 (by omega) (fun k hk => by have := hrg64 k hk; omega)) hE70) hO73 (by omega)) hE435) hO448 (by omega))⟩
 ·refine CW.drawsI 15 (vgetI ([.bool ((g_strings_CutPrefix p_w.Key (p_t.Name ++ ([47] : Str))).2), .bool (!((g_strings_CutPrefix p_w.Key (p_t.Name ++ ([47] : Str))).2)), .bool (!((g_strings_CutPrefix p_w.Key (p_t.Name ++ ([47] : Str))).2)), undef, undef, undef, undef, .bool (true), .bool (true), undef, undef, undef, undef, undef, .bool (true)].map DetI)) Tryz.follows rfl rfl rfl rfl rfl rfl (vgetI_stable (stD _)) ⟨?_, ?_, ?_, ?_, ?_, ?_, ?_, ?_, ?_, ?_, ?_, ?_, ?_, ?_, ?_, trivial⟩ ?_
  ·exact oI rfl fun h => yl_move rfl (h.old 7 _ rfl rfl) kI
  ·exact oI rfl fun h => yl_not rfl (h.dt 0 25 rfl rfl rfl) kI
  ·exact oI rfl fun h => yl_move rfl (h.dt 1 26 rfl rfl rfl) kI
  ·exact oS rfl rfl rfl rfl rfl (not_f hb74)
  ·exact oS rfl rfl rfl rfl rfl (not_f hb74)
  ·exact oS rfl rfl rfl rfl rfl (not_f hb74)
  ·exact oS rfl rfl rfl rfl rfl (not_f hb74)
  ·exact oI rfl fun h => yl_pick_t rfl (h.dt 2 27 rfl rfl rfl) (not_f hb74) rfl kI
  ·exact oI rfl fun h => yl_move rfl (h.dt 7 32 rfl rfl rfl) kI
  ·exact oS rfl rfl rfl rfl rfl rfl
  ·exact oS rfl rfl rfl rfl rfl rfl
  ·exact oS rfl rfl rfl rfl rfl rfl
  ·exact oS rfl rfl rfl rfl rfl rfl
  ·exact oS rfl rfl rfl rfl rfl rfl
  ·exact oI rfl fun h => yl_pick_t rfl (h.dt 8 33 rfl rfl rfl) rfl rfl kI
  ·intro fl541 fh542 L538 w539 hp540
   have hE543 := hp540.ex
   have hE543z := Ex.size hE543
   refine dn (CW.sub (Sub.cons (d := 4) (hp540.old 4 _ rfl rfl) (Sub.cons (d := 8) (hp540.old 8 _ rfl rfl) (Sub.cons (d := 39) (hp540.nt 14 39 rfl rfl rfl) (Sub.nil _)))) (CW.cond_t rfl rfl (CW.seq (CW.region (sd rfl (yl_build (cs := [.slice none 0 0]) rfl opvs_nil (by kernel_rfl) (SeqR.u rfl rfl (yl_store (vs := [.slice none 0 0]) ty70 rfl rfl rfl rfl rfl rfl (Box.ex (Box.only (Box.ex (Box.grown (Box.ex (Box.ex (Box.ex hB26 hE35) hE41) hE49) hG63 (fun k hk => by have := hrg64 k hk; omega)) hE70) hO73 (by omega)) hE543) (Nat.le_of_ble_eq_true rfl) ?_))))))))
   intro w554 hB555 hO556
   have hB555 : Box w554 b22 70 [.slice none 0 0] := hB555
   have hO556z := hO556.size
   refine sd rfl (yl_assign rfl rfl (dn (CW.ret (tr (rr rfl (.cons ⟨_, rfl, run_loadN ty70 (cs := [.slice none 0 0]) rfl (hB555.cells (n := 1) rfl)⟩ (.cons rfl .nil)) ?_)))))
   have hM557 : (i_Table_readRow p_t p_w) = (((⟨[]⟩ : DRow), false)) := by simp only [i_Table_readRow, hb74, cL]
   rw [hM557]
   exact ⟨none, 0, w554.heap.size, w554.heap.size, rfl, (OwnL.nil _ _ _ _ _ _), (okL.nil _), (by omega), (Below.only (Ex.trans (Below.only (Ex.trans (Below.grown (Ex.trans (Ex.trans (Ex.trans (Ex.trans (Ex.trans (Ex.trans (Ex.refl w) hE15) hE21) hE27) hE35) hE41) hE49) hG63 (by omega) (fun k hk => by have := hrg64 k hk; omega)) hE70) hO73 (by omega)) hE543) hO556 (by omega))⟩
theorem c_i_Table_rowsIn {A1 : Option Addr} {c1 : Nat} {A2 : Option Addr} {c2 : Nat} {A4 : Option Addr} {c4 : Nat} {w : World} (p_t : DTable) (p_store : List DWrite) (h1 : RdS w (Iv 0 w.heap.size) (RF e_Str) 1 A1 p_t.Cols.length c1 p_t.Cols) (h2 : RdS w (Iv 0 w.heap.size) (RF e_Idx) 3 A2 p_t.Idxs.length c2 p_t.Idxs) (h4 : RdS w (Iv 0 w.heap.size) (RF e_Write) 3 A4 p_store.length c4 p_store) (o3 : ok_Table p_t) (o5 : (okL ok_Write) p_store) (pre0 : s_GoodTable p_t = true) : Cal Tryz.prog 68 #[.agg #[.string (bs (p_t.Name)), .slice A1 p_t.Cols.length c1, .slice A2 p_t.Idxs.length c2], .slice A4 p_store.length c4] w fun v w' => ∃ A_1 c_1 lo_1 hi_1, v = .slice A_1 ((i_Table_rowsIn p_t p_store).length) c_1 ∧ OwnD w' lo_1 hi_1 70 1 RO_Row A_1 ((i_Table_rowsIn p_t p_store).length) c_1 (i_Table_rowsIn p_t p_store) ∧ (okL ok_Row) (i_Table_rowsIn p_t p_store) ∧ (w.heap.size ≤ lo_1 ∧ lo_1 ≤ hi_1 ∧ hi_1 ≤ w'.heap.size) ∧ Ex w w' := by
 have hol6 : p_t.Name.length ≤ 1073741824 := o3.1
 have hol7 := o3.2.1.1
 have hol8 := o3.2.2.1
 have hol9 := o5.1
 refine Cal.of func68 rfl ntmps68 rfl (CW.seq (CW.region (sd rfl (yl_box rfl rfl rfl ?_))))
 intro b10 w11 hs12 hz13 hB14 hE15
 refine sd rfl (yl_assign rfl rfl (dn (CW.seq (CW.region (sd rfl (yl_buildSlice (cs := []) un67 ty70 (by decide) rfl opvs_nil (by kernel_rfl) ?_))))))
 intro b16 w17 hs18 hz19 hB20 hE21
 have hO22 : OwnL w17 b16 (b16 + 1) 70 1 R_Row (some ⟨b16, 0, none⟩) 0 0 ([] : List DRow) := OwnL.of_box (S := fun _ => False) hB20 (Nat.le_refl _) (Nat.lt_succ_self _) EncL.nil (Nat.le_of_ble_eq_true rfl) (fun h => h) (fun _ h => False.elim h)
 refine sd rfl (yl_assign rfl rfl (dn (CW.seq (CW.seq (CW.region (sd rfl (yl_move rfl rfl (sd rfl (yl_len un35 rfl rfl (sd rfl (yl_move rfl rfl ?_)))))))))))
 refine dn (CW.block (CW.loop (fun m109 L110 w111 => ∃ (k23 : Nat) (x105 : List DRow) (A106 : Option Addr) (c107 : Nat) (u108 : Nat), m109 = p_store.length - k23 ∧ k23 ≤ p_store.length ∧ w17.heap.size ≤ w111.heap.size ∧ lkp L110 2 = some (.pointer (some ⟨b10, 0, none⟩)) ∧ lkp L110 5 = some (.slice A106 x105.length c107) ∧ lkp L110 11 = some (.slice A4 p_store.length c4) ∧ lkp L110 12 = some (.int .i64 ((p_store.length : Int))) ∧ lkp L110 13 = some (.int .i64 ((k23 : Int))) ∧ Box w111 b10 33 [.string (bs (p_t.Name)), .slice A1 p_t.Cols.length c1, .slice A2 p_t.Idxs.length c2] ∧ RdS w111 (Iv 0 w.heap.size) (RF e_Str) 1 A1 p_t.Cols.length c1 p_t.Cols ∧ RdS w111 (Iv 0 w.heap.size) (RF e_Idx) 3 A2 p_t.Idxs.length c2 p_t.Idxs ∧ OwnD w111 b16 u108 70 1 RO_Row A106 x105.length c107 x105 ∧ RdS w111 (Iv 0 w.heap.size) (RF e_Write) 3 A4 p_store.length c4 p_store ∧ Ex w w111 ∧ (b16 ≤ u108 ∧ u108 ≤ w111.heap.size) ∧ x105.length ≤ 0 + 1 * (k23 - 0) ∧ (∀ y ∈ x105, ok_Row y) ∧ loopM (B_i_Table_rowsIn_0 p_t p_store) (p_store.length - k23) k23 (x105) = loopM (B_i_Table_rowsIn_0 p_t p_store) (p_store.length - 0) 0 (([] : List DRow))) (p_store.length - 0) ?_ ?_))
 ·exact ⟨0, ([] : List DRow), (some ⟨b16, 0, none⟩), 0, (b16 + 1), rfl, (by omega), Nat.le_refl _, rfl, rfl, rfl, rfl, rfl, (Box.ex hB14 hE21), (RdS.ex good_Str (RdS.ex good_Str h1 hE15) hE21), (RdS.ex good_Idx (RdS.ex good_Idx h2 hE15) hE21), (OwnD.empty w17 b16 (b16 + 1) 70 1 RO_Row (some ⟨b16, 0, none⟩)), (RdS.ex good_Write (RdS.ex good_Write h4 hE15) hE21), (Ex.trans (Ex.trans (Ex.refl w) hE15) hE21), (by omega), (by first | (simp; done) | (first | omega | (simp only [List.length_append, List.length_cons, List.length_nil, List.length_set, toS_length]; omega))), okE.nil, rfl⟩
 ·rintro m121 L122 w123 ⟨k23, x105, A106, c107, u108, rfl, hk124, hsz126, hl127, hl128, hl129, hl130, hl131, hf132, hf133, hf134, hf135, hf136, hf137, hu138, hln139, hok140, hI125⟩
  refine CW.sub (Sub.cons hl127 (Sub.cons hl128 (Sub.cons hl129 (Sub.cons hl130 (Sub.cons hl131 (Sub.nil _)))))) ?_
  have hf132z := Box.lt hf132
  have hf137z := Ex.size hf137
  have hbg141 := RdS.big hf136
  rcases Nat.lt_or_ge k23 p_store.length with hlt142 | hlt142
  ·refine CW.seq (CW.region (sd rfl (yl_lss rfl rfl rfl (dn (CW.seq (CW.cond_t rfl (lt_t hlt142) (CW.skip (tn ?_))))))))
   refine CW.seq (CW.block (CW.seq (CW.region ?_)))
   obtain ⟨eb143, eo143, _, eA143, _, ebl143, _, eR143, eC143⟩ := RdS.aD hf136 d_Write (i := k23)
   obtain rfl := eR143
   have eC143 : Cells w123 eb143 (eo143 + k23 * 3) [.string (bs ((p_store.getD k23 d_Write).Key)), .string (bs ((p_store.getD k23 d_Write).Val)), .bool ((p_store.getD k23 d_Write).Gone)] := eC143
   refine sd rfl (yl_ixN un35 ty53 rfl rfl rfl eA143 (sd rfl (yl_loadN ty53 rfl rfl eC143 rfl (sd rfl (yl_alloc ty53 (cs := [.string (bs (([] : Str))), .string (bs (([] : Str))), .bool (false)]) rfl rfl ?_)))))
   intro b144 w145 hs146 hz147 hB148 hE149
   refine SeqR.u rfl rfl (yl_store (vs := [.string (bs ((p_store.getD k23 d_Write).Key)), .string (bs ((p_store.getD k23 d_Write).Val)), .bool ((p_store.getD k23 d_Write).Gone)]) ty53 rfl rfl rfl rfl rfl rfl hB148 (Nat.le_of_ble_eq_true rfl) ?_)
   intro w150 hB151 hO152
   have hB151 : Box w150 b144 53 [.string (bs ((p_store.getD k23 d_Write).Key)), .string (bs ((p_store.getD k23 d_Write).Val)), .bool ((p_store.getD k23 d_Write).Gone)] := hB151
   have hO152z := hO152.size
   refine dn (CW.seq (CW.region ?_))
   have q154 := Box.only (Box.ex hf132 hE149) hO152 (by omega)
   refine sd rfl (yl_loadN ty33 rfl rfl (q154.cells (n := 3) rfl) rfl (sd rfl (yl_loadN ty53 rfl rfl (hB151.cells (n := 3) rfl) rfl ?_)))
   have q156 := RdS.only good_Str (RdS.ex good_Str hf133 hE149) hO152 (by simp only [Iv]; omega)
   have q158 := RdS.only good_Idx (RdS.ex good_Idx hf134 hE149) hO152 (by simp only [Iv]; omega)
   refine sd rfl (yl_call en87 rfl (oc rfl (oc rfl oz)) (Cal.mono (c_i_Table_readRow p_t (p_store.getD k23 d_Write) (RdS.up q156 good_Str) (RdS.up q158 good_Idx) o3 (okL.getD o5 ok_d_Write _) (by first | omega | assumption | (simp only [wI] at *; omega))) ?_))
   rintro v162 w159 ⟨A160, c160, lo160, hi160, rfl, h160, ho161, hrn164, hE163⟩
   have hE163z := Ex.size hE163
   refine sd rfl (yl_move rfl rfl (sd rfl (yl_extract rfl rfl rfl (sd rfl (yl_extract rfl rfl rfl (sd rfl (yl_alloc ty70 (cs := [.slice none 0 0]) rfl rfl ?_)))))))
   intro b165 w166 hs167 hz168 hB169 hE170
   refine SeqR.u rfl rfl (yl_store (vs := [.slice A160 (((i_Table_readRow p_t (p_store.getD k23 d_Write)).1.Vals).length) c160]) ty70 rfl rfl rfl rfl rfl rfl hB169 (Nat.le_of_ble_eq_true rfl) ?_)
   intro w171 hB172 hO173
   have hB172 : Box w171 b165 70 [.slice A160 (((i_Table_readRow p_t (p_store.getD k23 d_Write)).1.Vals).length) c160] := hB172
   have hO173z := hO173.size
   refine sd rfl (yl_assign rfl rfl (dn (CW.seq (CW.region (sd rfl (yl_move rfl rfl (dn (bcase ((i_Table_readRow p_t (p_store.getD k23 d_Write)).2) (fun hb174 => ?_) (fun hb174 => ?_)))))))))
   ·refine CW.cond_t rfl hb174 (CW.region (sd rfl (yl_move rfl rfl (sd rfl (yl_loadN ty70 rfl rfl (hB172.cells (n := 1) rfl) rfl (sd rfl (yl_buildSlice (cs := [.slice A160 (((i_Table_readRow p_t (p_store.getD k23 d_Write)).1.Vals).length) c160]) un67 ty70 (by decide) rfl (oc rfl oz) (by kernel_rfl) ?_)))))))
    intro b175 w176 hs177 hz178 hB179 hE180
    have hO181 : OwnD w176 w150.heap.size (b175 + 1) 70 1 RO_Row (some ⟨b175, 0, none⟩) 1 1 ([(i_Table_readRow p_t (p_store.getD k23 d_Write)).1] : List DRow) := OwnD.of_box (b := b175) (xs := ([(i_Table_readRow p_t (p_store.getD k23 d_Write)).1] : List DRow)) (cells := [[.slice A160 (((i_Table_readRow p_t (p_store.getD k23 d_Write)).1.Vals).length) c160]]) (by rw [List.flatten_singleton]; exact hB179) (by omega) (Nat.lt_succ_self _) (.cons (l := w150.heap.size) (h := b175) (Nat.le_refl _) (by omega) rfl (fun k hk => by cases hk; exact .inr (Nat.le_refl _)) (mkO_Row (l := w150.heap.size) (h := b175) (OwnL.ex good_Str (OwnL.only good_Str (OwnL.ex good_Str h160 hE170) hO173 (by omega)) hE180) (by omega)) (.nil (Nat.le_succ _))) (Nat.le_of_ble_eq_true rfl)
    refine sd rfl (yl_appendD (xs := x105) (ys := ([(i_Table_readRow p_t (p_store.getD k23 d_Write)).1] : List DRow)) goodO_Row un67 ty70 rfl (Nat.le_of_ble_eq_true rfl) rfl rfl rfl (OwnD.ex goodO_Row (OwnD.only goodO_Row (OwnD.ex goodO_Row (OwnD.ex goodO_Row (OwnD.only goodO_Row (OwnD.ex goodO_Row hf135 hE149) hO152 (by omega)) hE163) hE170) hO173 (by omega)) hE180) hO181 (by first | omega | (simp only [List.length_append, List.length_cons, List.length_nil, List.length_take, List.length_drop, List.length_replicate, List.length_set, toS_length]; omega)) (by first | omega | (simp only [List.length_append, List.length_cons, List.length_nil, List.length_take, List.length_drop, List.length_replicate, List.length_set, toS_length]; omega)) (by omega) (by omega) (by omega) (by omega) ?_)
    intro A190 c191 w192 row193 hO194 hG195 hrg196
    have hG195z := hG195.size
    refine sd rfl (yl_assign rfl rfl (SeqR.done (bn (tn (CW.region (sd rfl (yl_inc rfl rfl rfl (by omega) (sd rfl (yl_move rfl rfl (dn ?_))))))))))
    have hB197 : B_i_Table_rowsIn_0 p_t p_store k23 (x105) = .cont ((x105 ++ ([(i_Table_readRow p_t (p_store.getD k23 d_Write)).1] : List DRow))) := by simp only [B_i_Table_rowsIn_0, hb174, cL]
    exact ⟨p_store.length - (k23 + 1), by omega, k23 + 1, (x105 ++ ([(i_Table_readRow p_t (p_store.getD k23 d_Write)).1] : List DRow)), A190, c191, w192.heap.size, rfl, hlt142, (by omega), rfl, rfl, rfl, rfl, rfl, (Box.grown (Box.ex (Box.only (Box.ex (Box.ex q154 hE163) hE170) hO173 (by omega)) hE180) hG195 (fun k hk => by have := hrg196 k hk; omega)), (RdS.grown good_Str (RdS.ex good_Str (RdS.only good_Str (RdS.ex good_Str (RdS.ex good_Str q156 hE163) hE170) hO173 (by simp only [Iv]; omega)) hE180) hG195 (fun k hk => by have := hrg196 k hk; simp only [Iv]; omega)), (RdS.grown good_Idx (RdS.ex good_Idx (RdS.only good_Idx (RdS.ex good_Idx (RdS.ex good_Idx q158 hE163) hE170) hO173 (by simp only [Iv]; omega)) hE180) hG195 (fun k hk => by have := hrg196 k hk; simp only [Iv]; omega)), hO194, (RdS.grown good_Write (RdS.ex good_Write (RdS.only good_Write (RdS.ex good_Write (RdS.ex good_Write (RdS.only good_Write (RdS.ex good_Write hf136 hE149) hO152 (by simp only [Iv]; omega)) hE163) hE170) hO173 (by simp only [Iv]; omega)) hE180) hG195 (fun k hk => by have := hrg196 k hk; simp only [Iv]; omega)), (Below.grown (Ex.trans (Below.only (Ex.trans (Ex.trans (Below.only (Ex.trans hf137 hE149) hO152 (by omega)) hE163) hE170) hO173 (by omega)) hE180) hG195 (by omega) (fun k hk => by have := hrg196 k hk; omega)), (by omega), (by first | omega | (simp only [List.length_append, List.length_cons, List.length_nil, List.length_set, toS_length]; omega)), (okE.append hok140 ((okL.mk (Nat.le_of_ble_eq_true rfl) (okE.cons ho161 okE.nil))).2), (loopM.cont hlt142 hB197).symm.trans hI125⟩
   ·refine CW.cond_f rfl hb174 (CW.skip (bn (tn (CW.region (sd rfl (yl_inc rfl rfl rfl (by omega) (sd rfl (yl_move rfl rfl (dn ?_)))))))))
    have hB227 : B_i_Table_rowsIn_0 p_t p_store k23 (x105) = .cont (x105) := by simp only [B_i_Table_rowsIn_0, hb174, cL]
    exact ⟨p_store.length - (k23 + 1), by omega, k23 + 1, x105, A106, c107, u108, rfl, hlt142, (by omega), rfl, rfl, rfl, rfl, rfl, (Box.only (Box.ex (Box.ex q154 hE163) hE170) hO173 (by omega)), (RdS.only good_Str (RdS.ex good_Str (RdS.ex good_Str q156 hE163) hE170) hO173 (by simp only [Iv]; omega)), (RdS.only good_Idx (RdS.ex good_Idx (RdS.ex good_Idx q158 hE163) hE170) hO173 (by simp only [Iv]; omega)), (OwnD.only goodO_Row (OwnD.ex goodO_Row (OwnD.ex goodO_Row (OwnD.only goodO_Row (OwnD.ex goodO_Row hf135 hE149) hO152 (by omega)) hE163) hE170) hO173 (by omega)), (RdS.only good_Write (RdS.ex good_Write (RdS.ex good_Write (RdS.only good_Write (RdS.ex good_Write hf136 hE149) hO152 (by simp only [Iv]; omega)) hE163) hE170) hO173 (by simp only [Iv]; omega)), (Below.only (Ex.trans (Ex.trans (Below.only (Ex.trans hf137 hE149) hO152 (by omega)) hE163) hE170) hO173 (by omega)), (by omega), (by first | omega | (simp only [List.length_append, List.length_cons, List.length_nil, List.length_set, toS_length]; omega)), hok140, (loopM.cont hlt142 hB227).symm.trans hI125⟩
  ·refine CW.seq (CW.region (sd rfl (yl_lss rfl rfl rfl (dn (CW.seq (CW.cond_f rfl (lt_f hlt142) (CW.exit (tx ?_))))))))
   refine tx ?_
   have hL252 : loopM (B_i_Table_rowsIn_0 p_t p_store) (p_store.length - 0) 0 (([] : List DRow)) = .done (x105) := hI125.symm.trans (loopM.stop hlt142)
   refine bx (tn (CW.seq (CW.region (sd rfl (yl_move rfl rfl (sd rfl (yl_assign rfl rfl (dn (CW.ret ?_)))))))))
   refine rr rfl (.cons rfl .nil) ?_
   have hM253 : (i_Table_rowsIn p_t p_store) = (x105) := by simp only [i_Table_rowsIn, hL252, cL]
   rw [hM253]
   exact ⟨A106, c107, b16, u108, rfl, hf135, (okL.mk (xs := x105) (by first | omega | (simp only [List.length_append, List.length_cons, List.length_nil, List.length_take, List.length_drop, List.length_replicate, List.length_set, toS_length]; omega)) hok140), (by omega), hf137⟩
theorem c_i_Table_idxHead {A1 : Option Addr} {c1 : Nat} {A2 : Option Addr} {c2 : Nat} {w : World} (p_t : DTable) (p_name : Str) (h1 : RdS w (Iv 0 w.heap.size) (RF e_Str) 1 A1 p_t.Cols.length c1 p_t.Cols) (h2 : RdS w (Iv 0 w.heap.size) (RF e_Idx) 3 A2 p_t.Idxs.length c2 p_t.Idxs) (o3 : ok_Table p_t) (o4 : okS p_name) : Cal Tryz.prog 88 #[.agg #[.string (bs (p_t.Name)), .slice A1 p_t.Cols.length c1, .slice A2 p_t.Idxs.length c2], .string (bs (p_name))] w fun v w' => v = .string (bs ((i_Table_idxHead p_t p_name))) ∧ Ex w w' := by
 have hol5 : p_t.Name.length ≤ 1073741824 := o3.1
 have hol6 := o3.2.1.1
 have hol7 := o3.2.2.1
 have hol8 : p_name.length ≤ 1073741824 := o4
 refine Cal.of func88 rfl ntmps88 rfl (CW.seq (CW.region (sd rfl (yl_box rfl rfl rfl ?_))))
 intro b9 w10 hs11 hz12 hB13 hE14
 refine sd rfl (yl_assign rfl rfl (dn (CW.seq (CW.region (sd rfl (yl_fieldAddr fd33_0 rfl rfl (sd rfl (yl_load1 ty9 rfl rfl ((hB13.cell 0).trans rfl) ?_))))))))
 have hol15 : p_t.Name.length ≤ 1073741824 := o3.1
 refine sd rfl (yl_sadd (a := p_t.Name) (b := ([46] : Str)) rfl rfl rfl (by first | omega | (simp only [List.length_append, List.length_cons, List.length_nil, List.length_take, List.length_drop, toS_length]; omega)) (sd rfl (yl_move rfl rfl ?_)))
 have hol16 : p_t.Name.length ≤ 1073741824 := o3.1
 have hol17 : p_name.length ≤ 1073741824 := o4
 refine sd rfl (yl_sadd (a := (p_t.Name ++ ([46] : Str))) (b := p_name) rfl rfl rfl (by first | omega | (simp only [List.length_append, List.length_cons, List.length_nil, List.length_take, List.length_drop, toS_length]; omega)) ?_)
 have hol18 : p_t.Name.length ≤ 1073741824 := o3.1
 have hol19 : p_name.length ≤ 1073741824 := o4
 refine sd rfl (yl_sadd (a := ((p_t.Name ++ ([46] : Str)) ++ p_name)) (b := ([47] : Str)) rfl rfl rfl (by first | omega | (simp only [List.length_append, List.length_cons, List.length_nil, List.length_take, List.length_drop, toS_length]; omega)) (sd rfl (yl_assign rfl rfl (dn (CW.ret (rr rfl (.cons rfl .nil) ?_))))))
 have hM20 : (i_Table_idxHead p_t p_name) = (((p_t.Name ++ ([46] : Str)) ++ p_name) ++ ([47] : Str)) := by simp only [i_Table_idxHead, cL]
 rw [hM20]
 exact ⟨rfl, (Ex.trans (Ex.refl w) hE14)⟩
theorem c_i_Table_idx {A1 : Option Addr} {c1 : Nat} {A2 : Option Addr} {c2 : Nat} {w : World} (p_t : DTable) (p_name : Str) (h1 : RdS w (Iv 0 w.heap.size) (RF e_Str) 1 A1 p_t.Cols.length c1 p_t.Cols) (h2 : RdS w (Iv 0 w.heap.size) (RF e_Idx) 3 A2 p_t.Idxs.length c2 p_t.Idxs) (o3 : ok_Table p_t) (o4 : okS p_name) (pre0 : (0 ≤ i_Table_findIdx p_t p_name ∧ i_Table_findIdx p_t p_name < (p_t.Idxs.length : Int))) : Cal Tryz.prog 89 #[.agg #[.string (bs (p_t.Name)), .slice A1 p_t.Cols.length c1, .slice A2 p_t.Idxs.length c2], .string (bs (p_name))] w fun v w' => v = .agg #[.string (bs ((i_Table_idx p_t p_name).Name)), .int .i64 ((i_Table_idx p_t p_name).Col), .int .i64 ((i_Table_idx p_t p_name).Stage)] ∧ ok_Idx (i_Table_idx p_t p_name) ∧ Ex w w' := by
 have hol5 : p_t.Name.length ≤ 1073741824 := o3.1
 have hol6 := o3.2.1.1
 have hol7 := o3.2.2.1
 have hol8 : p_name.length ≤ 1073741824 := o4
 refine Cal.of func89 rfl ntmps89 rfl (CW.seq (CW.region (sd rfl (yl_box rfl rfl rfl ?_))))
 intro b9 w10 hs11 hz12 hB13 hE14
 refine sd rfl (yl_alloc ty72 (cs := [.string (bs (([] : Str))), .int .i64 (0), .int .i64 (0)]) rfl rfl ?_)
 intro b15 w16 hs17 hz18 hB19 hE20
 refine dn (CW.seq ?_)
 have q21 := Box.ex hB13 hE20
 have q25 := RdS.ex good_Idx (RdS.ex good_Idx h2 hE14) hE20
 have hrf27 := rf_i_findIdx p_t p_name
 refine CW.drawsI 5 (vgetI ([.pointer (some ⟨b9, 0 + 2, none⟩), .slice A2 p_t.Idxs.length c2, .agg #[.string (bs (p_t.Name)), .slice A1 p_t.Cols.length c1, .slice A2 p_t.Idxs.length c2], .string (bs (p_name)), .int .i64 ((i_Table_findIdx p_t p_name))].map DetI)) Tryz.follows rfl rfl rfl rfl rfl rfl (vgetI_stable (stD _)) ⟨?_, ?_, ?_, ?_, ?_, trivial⟩ ?_
 ·exact oI rfl fun h => yl_fieldAddr fd33_2 rfl (h.old 2 _ rfl rfl) kI
 ·exact oI rfl fun h => yl_load1 ty31 rfl (h.dt 0 5 rfl rfl rfl) (((Box.ex q21 h.ex).cell 2).trans rfl) kI
 ·exact oI rfl fun h => yl_loadN ty33 rfl (h.old 2 _ rfl rfl) ((Box.ex q21 h.ex).cells (n := 3) rfl) rfl kI
 ·exact oI rfl fun h => yl_move rfl (h.old 1 _ rfl rfl) kI
 ·intro L50 w51 hi52
  have hE53 := hi52.ex
  exact OpR.op' rfl (yl_call en60 rfl (oc (hi52.dt 2 7 rfl rfl rfl) (oc (hi52.dt 3 8 rfl rfl rfl) oz)) (Cal.mono (c_i_Table_findIdx p_t p_name (RdS.up (RdS.ex good_Str (RdS.ex good_Str (RdS.ex good_Str h1 hE14) hE20) hE53) good_Str) (RdS.up (RdS.ex good_Idx q25 hE53) good_Idx) o3 o4) fun _ _ h => h))
 ·intro fl64 fh65 L61 w62 hp63
  have hE66 := hp63.ex
  have hE66z := Ex.size hE66
  have hx67 := hp63.old 4 _ rfl rfl
  obtain ⟨eb71, eo71, _, eA71, _, ebl71, _, eR71, eC71⟩ := RdS.atD (RdS.ex good_Idx q25 hE66) d_Idx (i := ((i_Table_findIdx p_t p_name)).toNat) (by first | omega | assumption | (simp only [wI] at *; omega))
  obtain rfl := eR71
  have eC71 : Cells w62 eb71 (eo71 + (((i_Table_findIdx p_t p_name)).toNat) * 3) [.string (bs ((p_t.Idxs.getD (((i_Table_findIdx p_t p_name)).toNat) d_Idx).Name)), .int .i64 ((p_t.Idxs.getD (((i_Table_findIdx p_t p_name)).toNat) d_Idx).Col), .int .i64 ((p_t.Idxs.getD (((i_Table_findIdx p_t p_name)).toNat) d_Idx).Stage)] := eC71
  refine sd rfl (yl_indexAddr un31 ty72 rfl (hp63.nt 1 6 rfl rfl rfl) (hp63.nt 4 9 rfl rfl rfl) eA71 (by first | omega | assumption | (simp only [wI] at *; omega)) (by first | omega | assumption | (simp only [wI] at *; omega)) (sd rfl (yl_loadN ty72 rfl rfl eC71 rfl (SeqR.u rfl rfl (yl_store (vs := [.string (bs ((p_t.Idxs.getD (((i_Table_findIdx p_t p_name)).toNat) d_Idx).Name)), .int .i64 ((p_t.Idxs.getD (((i_Table_findIdx p_t p_name)).toNat) d_Idx).Col), .int .i64 ((p_t.Idxs.getD (((i_Table_findIdx p_t p_name)).toNat) d_Idx).Stage)]) ty72 rfl hx67 rfl rfl rfl rfl (Box.ex hB19 hE66) (Nat.le_of_ble_eq_true rfl) ?_)))))
  intro w73 hB74 hO75
  have hB74 : Box w73 b15 72 [.string (bs ((p_t.Idxs.getD (((i_Table_findIdx p_t p_name)).toNat) d_Idx).Name)), .int .i64 ((p_t.Idxs.getD (((i_Table_findIdx p_t p_name)).toNat) d_Idx).Col), .int .i64 ((p_t.Idxs.getD (((i_Table_findIdx p_t p_name)).toNat) d_Idx).Stage)] := hB74
  have hO75z := hO75.size
  refine dn (CW.sub (Sub.cons (d := 4) hx67 (Sub.nil _)) (CW.ret (rr rfl (.cons ⟨_, rfl, run_loadN ty72 (cs := [.string (bs ((p_t.Idxs.getD (((i_Table_findIdx p_t p_name)).toNat) d_Idx).Name)), .int .i64 ((p_t.Idxs.getD (((i_Table_findIdx p_t p_name)).toNat) d_Idx).Col), .int .i64 ((p_t.Idxs.getD (((i_Table_findIdx p_t p_name)).toNat) d_Idx).Stage)]) rfl (hB74.cells (n := 3) rfl)⟩ .nil) ?_)))
  have hM76 : (i_Table_idx p_t p_name) = ((p_t.Idxs.getD (((i_Table_findIdx p_t p_name)).toNat) d_Idx)) := by simp only [i_Table_idx, cL]
  rw [hM76]
  exact ⟨rfl, (okL.getD o3.2.2 ok_d_Idx _), (Below.only (Ex.trans (Ex.trans (Ex.trans (Ex.refl w) hE14) hE20) hE66) hO75 (by omega))⟩
theorem c_i_Table_idxKey {A1 : Option Addr} {c1 : Nat} {A2 : Option Addr} {c2 : Nat} {A5 : Option Addr} {c5 : Nat} {w : World} (p_t : DTable) (p_name : Str) (p_r : DRow) (h1 : RdS w (Iv 0 w.heap.size) (RF e_Str) 1 A1 p_t.Cols.length c1 p_t.Cols) (h2 : RdS w (Iv 0 w.heap.size) (RF e_Idx) 3 A2 p_t.Idxs.length c2 p_t.Idxs) (h5 : RdS w (Iv 0 w.heap.size) (RF e_Str) 1 A5 p_r.Vals.length c5 p_r.Vals) (o3 : ok_Table p_t) (o4 : okS p_name) (o6 : ok_Row p_r) (pre0 : (0 ≤ i_Table_findIdx p_t p_name ∧ i_Table_findIdx p_t p_name < (p_t.Idxs.length : Int))) (pre1 : (0 ≤ (i_Table_idx p_t p_name).Col ∧ (i_Table_idx p_t p_name).Col < (p_r.Vals.length : Int))) (pre2 : (p_t.Name.length ≤ 1 ∧ p_name.length ≤ 1)) (pre3 : rowShort p_r) : Cal Tryz.prog 69 #[.agg #[.string (bs (p_t.Name)), .slice A1 p_t.Cols.length c1, .slice A2 p_t.Idxs.length c2], .string (bs (p_name)), .agg #[.slice A5 p_r.Vals.length c5]] w fun v w' => v = .string (bs ((i_Table_idxKey p_t p_name p_r))) ∧ okS (i_Table_idxKey p_t p_name p_r) ∧ Ex w w' := by
 have hol7 : p_t.Name.length ≤ 1073741824 := o3.1
 have hol8 := o3.2.1.1
 have hol9 := o3.2.2.1
 have hol10 : p_name.length ≤ 1073741824 := o4
 have hol11 := o6.1
 refine Cal.of func69 rfl ntmps69 rfl (CW.seq (CW.region (sd rfl (yl_box rfl rfl rfl ?_))))
 intro b12 w13 hs14 hz15 hB16 hE17
 refine sd rfl (yl_box rfl rfl rfl ?_)
 intro b18 w19 hs20 hz21 hB22 hE23
 refine sd rfl (yl_assign rfl rfl (dn (CW.seq ?_)))
 have q24 := Box.ex hB16 hE23
 have q26 := RdS.ex good_Str (RdS.ex good_Str h1 hE17) hE23
 have q28 := RdS.ex good_Idx (RdS.ex good_Idx h2 hE17) hE23
 have q33 := RdS.ex good_Str (RdS.ex good_Str h5 hE17) hE23
 obtain ⟨eb34, eo34, _, eA34, _, ebl34, _, eR34, eC34⟩ := RdS.atD q33 d_Str (i := ((i_Table_idx p_t p_name).Col).toNat) (by first | omega | assumption | (simp only [wI] at *; omega))
 obtain rfl := eR34
 have eC34 : Cells w19 eb34 (eo34 + (((i_Table_idx p_t p_name).Col).toNat) * 1) [.string (bs ((p_r.Vals.getD (((i_Table_idx p_t p_name).Col).toNat) d_Str)))] := eC34
 have hol35 : (p_r.Vals.getD (((i_Table_idx p_t p_name).Col).toNat) d_Str).length ≤ 1073741824 := (okL.getD o6 ok_d_Str _)
 have hol36 : (p_r.Vals.getD (((i_Table_idx p_t p_name).Col).toNat) d_Str).length ≤ 1073741824 := (okL.getD o6 ok_d_Str _)
 obtain ⟨eb37, eo37, _, eA37, _, ebl37, _, eR37, eC37⟩ := RdS.aD q33 d_Str (i := 0)
 obtain rfl := eR37
 have eC37 : Cells w19 eb37 (eo37 + 0 * 1) [.string (bs ((p_r.Vals.getD 0 d_Str)))] := eC37
 have hol38 : (p_r.Vals.getD (((i_Table_idx p_t p_name).Col).toNat) d_Str).length ≤ 1073741824 := (okL.getD o6 ok_d_Str _)
 have hol39 : (p_r.Vals.getD 0 d_Str).length ≤ 1073741824 := (okL.getD o6 ok_d_Str _)
 have hrf40 := rf_idxHead p_t p_name
 refine CW.drawsI 19 (vgetI [DetI (.agg #[.string (bs (p_t.Name)), .slice A1 p_t.Cols.length c1, .slice A2 p_t.Idxs.length c2]), DetI (.string (bs (p_name))), DetI (.string (bs ((i_Table_idxHead p_t p_name)))), DetI (.pointer (some ⟨b18, 0 + 0, none⟩)), DetI (.slice A5 p_r.Vals.length c5), DetI (.agg #[.string (bs (p_t.Name)), .slice A1 p_t.Cols.length c1, .slice A2 p_t.Idxs.length c2]), DetI (.string (bs (p_name))), fun lo hi v wq => v = .agg #[.string (bs ((i_Table_idx p_t p_name).Name)), .int .i64 ((i_Table_idx p_t p_name).Col), .int .i64 ((i_Table_idx p_t p_name).Stage)] ∧ ok_Idx (i_Table_idx p_t p_name), DetI (.int .i64 ((i_Table_idx p_t p_name).Col)), DetI (.pointer (some ⟨eb34, eo34 + (((i_Table_idx p_t p_name).Col).toNat) * 1, none⟩)), DetI (.string (bs ((p_r.Vals.getD (((i_Table_idx p_t p_name).Col).toNat) d_Str)))), DetI (.string (bs ((i_Table_idxHead p_t p_name) ++ (p_r.Vals.getD (((i_Table_idx p_t p_name).Col).toNat) d_Str)))), DetI (.string (bs (((i_Table_idxHead p_t p_name) ++ (p_r.Vals.getD (((i_Table_idx p_t p_name).Col).toNat) d_Str)) ++ ([47] : Str)))), DetI (.pointer (some ⟨b18, 0 + 0, none⟩)), DetI (.slice A5 p_r.Vals.length c5), DetI (.pointer (some ⟨eb37, eo37 + 0 * 1, none⟩)), DetI (.string (bs ((p_r.Vals.getD 0 d_Str)))), DetI (.string (bs ((((i_Table_idxHead p_t p_name) ++ (p_r.Vals.getD (((i_Table_idx p_t p_name).Col).toNat) d_Str)) ++ ([47] : Str)) ++ (p_r.Vals.getD 0 d_Str)))), DetI (.string (bs ((((i_Table_idxHead p_t p_name) ++ (p_r.Vals.getD (((i_Table_idx p_t p_name).Col).toNat) d_Str)) ++ ([47] : Str)) ++ (p_r.Vals.getD 0 d_Str))))]) Tryz.follows rfl rfl rfl rfl rfl rfl (vgetI_stable ⟨StableI.det _, StableI.det _, StableI.det _, StableI.det _, StableI.det _, StableI.det _, StableI.det _, (fun _ _ _ _ _ ⟨hv, ho31⟩ e => ⟨hv, ho31⟩), StableI.det _, StableI.det _, StableI.det _, StableI.det _, StableI.det _, StableI.det _, StableI.det _, StableI.det _, StableI.det _, StableI.det _, StableI.det _, trivial⟩) ⟨?_, ?_, ?_, ?_, ?_, ?_, ?_, ?_, ?_, ?_, ?_, ?_, ?_, ?_, ?_, ?_, ?_, ?_, ?_, trivial⟩ ?_
 ·exact oI rfl fun h => yl_loadN ty33 rfl (h.old 3 _ rfl rfl) ((Box.ex q24 h.ex).cells (n := 3) rfl) rfl kI
 ·exact oI rfl fun h => yl_move rfl (h.old 1 _ rfl rfl) kI
 ·intro L52 w53 hi54
  have hE55 := hi54.ex
  exact OpR.op' rfl (yl_call en88 rfl (oc (hi54.dt 0 7 rfl rfl rfl) (oc (hi54.dt 1 8 rfl rfl rfl) oz)) (Cal.mono (c_i_Table_idxHead p_t p_name (RdS.up (RdS.ex good_Str q26 hE55) good_Str) (RdS.up (RdS.ex good_Idx q28 hE55) good_Idx) o3 o4) fun _ _ h => h))
 ·exact oI rfl fun h => yl_fieldAddr fd70_0 rfl (h.old 5 _ rfl rfl) kI
 ·exact oI rfl fun h => yl_load1 ty22 rfl (h.dt 3 10 rfl rfl rfl) (((Box.ex hB22 h.ex).cell 0).trans rfl) kI
 ·exact oI rfl fun h => yl_loadN ty33 rfl (h.old 3 _ rfl rfl) ((Box.ex q24 h.ex).cells (n := 3) rfl) rfl kI
 ·exact oI rfl fun h => yl_move rfl (h.old 1 _ rfl rfl) kI
 ·intro L85 w86 hi87
  have hE88 := hi87.ex
  have hE88z := Ex.size hE88
  refine OpR.op' rfl (yl_call en89 rfl (oc (hi87.dt 5 12 rfl rfl rfl) (oc (hi87.dt 6 13 rfl rfl rfl) oz)) (Cal.mono (c_i_Table_idx p_t p_name (RdS.up (RdS.ex good_Str q26 hE88) good_Str) (RdS.up (RdS.ex good_Idx q28 hE88) good_Idx) o3 o4 (by first | omega | assumption | (simp only [wI] at *; omega))) ?_))
  rintro v95 w93 ⟨rfl, ho94, hE96⟩
  exact ⟨⟨rfl, ho94⟩, hE96⟩
 ·intro L97 w98 hi99
  obtain ⟨lo102, hh103, _, hx101, hr104, hr105, hr106, rfl, h107⟩ := hi99.dep 7 14 rfl rfl
  exact os rfl ((yl_field1 fd72_1 rfl hx101 rfl kI))
 ·intro L108 w109 hi110
  have hE111 := hi110.ex
  have hE111z := Ex.size hE111
  exact os rfl ((yl_indexAddr un22 ty9 rfl (hi110.dt 4 11 rfl rfl rfl) (hi110.dt 8 15 rfl rfl rfl) eA34 (by first | omega | assumption | (simp only [wI] at *; omega)) (by first | omega | assumption | (simp only [wI] at *; omega)) kI))
 ·exact oI rfl fun h => yl_load1 ty9 rfl (h.dt 9 16 rfl rfl rfl) ((Cells.ex eC34 h.ex) 0 _ rfl) kI
 ·intro L120 w121 hi122
  have hE123 := hi122.ex
  have hE123z := Ex.size hE123
  have hol126 : (p_r.Vals.getD (((i_Table_idx p_t p_name).Col).toNat) d_Str).length ≤ 1073741824 := (okL.getD o6 ok_d_Str _)
  exact os rfl ((yl_sadd (a := (i_Table_idxHead p_t p_name)) (b := (p_r.Vals.getD (((i_Table_idx p_t p_name).Col).toNat) d_Str)) rfl (hi122.dt 2 9 rfl rfl rfl) (hi122.dt 10 17 rfl rfl rfl) (by first | omega | (simp only [List.length_append, List.length_cons, List.length_nil, List.length_take, List.length_drop, toS_length]; omega)) kI))
 ·intro L127 w128 hi129
  have hE130 := hi129.ex
  have hE130z := Ex.size hE130
  have hol132 : (p_r.Vals.getD (((i_Table_idx p_t p_name).Col).toNat) d_Str).length ≤ 1073741824 := (okL.getD o6 ok_d_Str _)
  exact os rfl ((yl_sadd (a := ((i_Table_idxHead p_t p_name) ++ (p_r.Vals.getD (((i_Table_idx p_t p_name).Col).toNat) d_Str))) (b := ([47] : Str)) rfl (hi129.dt 11 18 rfl rfl rfl) rfl (by first | omega | (simp only [List.length_append, List.length_cons, List.length_nil, List.length_take, List.length_drop, toS_length]; omega)) kI))
 ·exact oI rfl fun h => yl_fieldAddr fd70_0 rfl (h.old 5 _ rfl rfl) kI
 ·exact oI rfl fun h => yl_load1 ty22 rfl (h.dt 13 20 rfl rfl rfl) (((Box.ex hB22 h.ex).cell 0).trans rfl) kI
 ·intro L144 w145 hi146
  have hE147 := hi146.ex
  have hE147z := Ex.size hE147
  exact os rfl ((yl_ixN un22 ty9 rfl (hi146.dt 14 21 rfl rfl rfl) rfl eA37 kI))
 ·exact oI rfl fun h => yl_load1 ty9 rfl (h.dt 15 22 rfl rfl rfl) ((Cells.ex eC37 h.ex) 0 _ rfl) kI
 ·intro L155 w156 hi157
  have hE158 := hi157.ex
  have hE158z := Ex.size hE158
  have hol161 : (p_r.Vals.getD (((i_Table_idx p_t p_name).Col).toNat) d_Str).length ≤ 1073741824 := (okL.getD o6 ok_d_Str _)
  have hol162 : (p_r.Vals.getD 0 d_Str).length ≤ 1073741824 := (okL.getD o6 ok_d_Str _)
  exact os rfl ((yl_sadd (a := (((i_Table_idxHead p_t p_name) ++ (p_r.Vals.getD (((i_Table_idx p_t p_name).Col).toNat) d_Str)) ++ ([47] : Str))) (b := (p_r.Vals.getD 0 d_Str)) rfl (hi157.dt 12 19 rfl rfl rfl) (hi157.dt 16 23 rfl rfl rfl) (by first | omega | (simp only [List.length_append, List.length_cons, List.length_nil, List.length_take, List.length_drop, toS_length]; omega)) kI))
 ·exact oI rfl fun h => yl_assign rfl (h.dt 17 24 rfl rfl rfl) kI
 ·intro fl171 fh172 L168 w169 hp170
  have hE173 := hp170.ex
  have hE173z := Ex.size hE173
  refine dn (CW.sub (Sub.cons (d := 6) (hp170.nt 18 6 rfl rfl rfl) (Sub.nil _)) (CW.ret (rr rfl (.cons rfl .nil) ?_)))
  have hM175 : (i_Table_idxKey p_t p_name p_r) = ((((i_Table_idxHead p_t p_name) ++ (p_r.Vals.getD (((i_Table_idx p_t p_name).Col).toNat) d_Str)) ++ ([47] : Str)) ++ (p_r.Vals.getD 0 d_Str)) := by simp only [i_Table_idxKey, cL]
  rw [hM175]
  exact ⟨rfl, (okS_idxKey pre2 pre3), (Ex.trans (Ex.trans (Ex.trans (Ex.refl w) hE17) hE23) hE173)⟩
theorem c_i_Table_keysIn {A1 : Option Addr} {c1 : Nat} {A2 : Option Addr} {c2 : Nat} {A5 : Option Addr} {c5 : Nat} {w : World} (p_t : DTable) (p_name : Str) (p_store : List DWrite) (h1 : RdS w (Iv 0 w.heap.size) (RF e_Str) 1 A1 p_t.Cols.length c1 p_t.Cols) (h2 : RdS w (Iv 0 w.heap.size) (RF e_Idx) 3 A2 p_t.Idxs.length c2 p_t.Idxs) (h5 : RdS w (Iv 0 w.heap.size) (RF e_Write) 3 A5 p_store.length c5 p_store) (o3 : ok_Table p_t) (o4 : okS p_name) (o6 : (okL ok_Write) p_store) (pre0 : i_hasIdx p_t p_name = true) : Cal Tryz.prog 49 #[.agg #[.string (bs (p_t.Name)), .slice A1 p_t.Cols.length c1, .slice A2 p_t.Idxs.length c2], .string (bs (p_name)), .slice A5 p_store.length c5] w fun v w' => ∃ A_1 c_1 lo_1 hi_1, v = .slice A_1 ((i_Table_keysIn p_t p_name p_store).length) c_1 ∧ OwnL w' lo_1 hi_1 9 1 (RF e_Str) A_1 ((i_Table_keysIn p_t p_name p_store).length) c_1 (i_Table_keysIn p_t p_name p_store) ∧ (okL okS) (i_Table_keysIn p_t p_name p_store) ∧ (w.heap.size ≤ lo_1 ∧ lo_1 ≤ hi_1 ∧ hi_1 ≤ w'.heap.size) ∧ Ex w w' := by
 have hol7 : p_t.Name.length ≤ 1073741824 := o3.1
 have hol8 := o3.2.1.1
 have hol9 := o3.2.2.1
 have hol10 : p_name.length ≤ 1073741824 := o4
 have hol11 := o6.1
 have hgi := f_i_hasIdx pre0
 have hrl := rowsIn_len pre0 p_store
 refine Cal.of func49 rfl ntmps49 rfl (CW.seq (CW.region (sd rfl (yl_box rfl rfl rfl ?_))))
 intro b12 w13 hs14 hz15 hB16 hE17
 refine sd rfl (yl_assign rfl rfl (dn (CW.seq (CW.region (sd rfl (yl_buildSlice (cs := []) un22 ty9 (by decide) rfl opvs_nil (by kernel_rfl) ?_))))))
 intro b18 w19 hs20 hz21 hB22 hE23
 have hO24 : OwnL w19 b18 (b18 + 1) 9 1 (RF e_Str) (some ⟨b18, 0, none⟩) 0 0 ([] : List Str) := OwnL.of_box (S := fun _ => False) hB22 (Nat.le_refl _) (Nat.lt_succ_self _) EncL.nil (Nat.le_of_ble_eq_true rfl) (fun h => h) (fun _ h => False.elim h)
 refine sd rfl (yl_assign rfl rfl (dn (CW.seq (CW.seq (CW.region ?_)))))
 have q25 := Box.ex hB16 hE23
 refine sd rfl (yl_loadN ty33 rfl rfl (q25.cells (n := 3) rfl) rfl (sd rfl (yl_move rfl rfl ?_)))
 have q27 := RdS.ex good_Str (RdS.ex good_Str h1 hE17) hE23
 have q29 := RdS.ex good_Idx (RdS.ex good_Idx h2 hE17) hE23
 refine sd rfl (yl_call en68 rfl (oc rfl (oc rfl oz)) (Cal.mono (c_i_Table_rowsIn p_t p_store (RdS.up q27 good_Str) (RdS.up q29 good_Idx) (RdS.up (RdS.ex good_Write (RdS.ex good_Write h5 hE17) hE23) good_Write) o3 o6 (hasIdx_good pre0)) ?_))
 rintro v35 w32 ⟨A33, c33, lo33, hi33, rfl, h33, ho34, hrn37, hE36⟩
 have hE36z := Ex.size hE36
 refine sd rfl (yl_len un67 rfl rfl (sd rfl (yl_move rfl rfl (dn (CW.block (CW.loop (fun m104 L105 w106 => ∃ (k38 : Nat) (x100 : List Str) (A101 : Option Addr) (c102 : Nat) (u103 : Nat), m104 = (i_Table_rowsIn p_t p_store).length - k38 ∧ k38 ≤ (i_Table_rowsIn p_t p_store).length ∧ w32.heap.size ≤ w106.heap.size ∧ lkp L105 1 = some (.string (bs (p_name))) ∧ lkp L105 3 = some (.pointer (some ⟨b12, 0, none⟩)) ∧ lkp L105 7 = some (.slice A101 x100.length c102) ∧ lkp L105 13 = some (.slice A33 ((i_Table_rowsIn p_t p_store).length) c33) ∧ lkp L105 14 = some (.int .i64 (((i_Table_rowsIn p_t p_store).length : Int))) ∧ lkp L105 15 = some (.int .i64 ((k38 : Int))) ∧ Box w106 b12 33 [.string (bs (p_t.Name)), .slice A1 p_t.Cols.length c1, .slice A2 p_t.Idxs.length c2] ∧ RdS w106 (Iv 0 w.heap.size) (RF e_Str) 1 A1 p_t.Cols.length c1 p_t.Cols ∧ RdS w106 (Iv 0 w.heap.size) (RF e_Idx) 3 A2 p_t.Idxs.length c2 p_t.Idxs ∧ OwnL w106 w32.heap.size u103 9 1 (RF e_Str) A101 x100.length c102 x100 ∧ OwnD w106 lo33 hi33 70 1 RO_Row A33 ((i_Table_rowsIn p_t p_store).length) c33 (i_Table_rowsIn p_t p_store) ∧ Ex w w106 ∧ (w32.heap.size ≤ u103 ∧ u103 ≤ w106.heap.size) ∧ x100.length ≤ 0 + 1 * (k38 - 0) ∧ (∀ y ∈ x100, okS y) ∧ loopM (B_i_Table_keysIn_0 p_t p_name p_store) ((i_Table_rowsIn p_t p_store).length - k38) k38 (x100) = loopM (B_i_Table_keysIn_0 p_t p_name p_store) ((i_Table_rowsIn p_t p_store).length - 0) 0 (([] : List Str))) ((i_Table_rowsIn p_t p_store).length - 0) ?_ ?_))))))
 ·exact ⟨0, ([] : List Str), (some ⟨b18, 0, none⟩), 0, w32.heap.size, rfl, (by omega), Nat.le_refl _, rfl, rfl, rfl, rfl, rfl, rfl, (Box.ex q25 hE36), (RdS.ex good_Str q27 hE36), (RdS.ex good_Idx q29 hE36), (OwnL.empty w32 w32.heap.size w32.heap.size 9 1 (RF e_Str) (some ⟨b18, 0, none⟩)), h33, (Ex.trans (Ex.trans (Ex.trans (Ex.refl w) hE17) hE23) hE36), (by omega), (by first | (simp; done) | (first | omega | (simp only [List.length_append, List.length_cons, List.length_nil, List.length_set, toS_length]; omega))), okE.nil, rfl⟩
 ·rintro m113 L114 w115 ⟨k38, x100, A101, c102, u103, rfl, hk116, hsz118, hl119, hl120, hl121, hl122, hl123, hl124, hf125, hf126, hf127, hf128, hf129, hf130, hu131, hln132, hok133, hI117⟩
  refine CW.sub (Sub.cons hl119 (Sub.cons hl120 (Sub.cons hl121 (Sub.cons hl122 (Sub.cons hl123 (Sub.cons hl124 (Sub.nil _))))))) ?_
  have hf125z := Box.lt hf125
  have hf130z := Ex.size hf130
  have hbg134 := RdS.big (OwnL.rd good_Row (OwnD.own goodO_Row good_Row hf129))
  rcases Nat.lt_or_ge k38 ((i_Table_rowsIn p_t p_store).length) with hlt136 | hlt136
  ·have hrow := rowsIn_at pre0 p_store hlt136
   refine CW.seq (CW.region (sd rfl (yl_lss rfl rfl rfl (dn (CW.seq (CW.cond_t rfl (lt_t hlt136) (CW.skip (tn ?_))))))))
   refine CW.seq (CW.block (CW.seq (CW.region ?_)))
   obtain ⟨_, _, _, eA138, _, ebl138, _, eR138, eC138⟩ := RdS.atD (OwnL.rd good_Row (OwnD.own goodO_Row good_Row hf129)) d_Row (i := k38) (by first | omega | assumption)
   obtain ⟨A139, c139, rfl, h139⟩ := eR138
   refine sd rfl (yl_ixN un67 ty70 rfl rfl rfl eA138 (sd rfl (yl_loadN ty70 rfl rfl eC138 rfl (sd rfl (yl_alloc ty70 (cs := [.slice none 0 0]) rfl rfl ?_)))))
   intro b140 w141 hs142 hz143 hB144 hE145
   refine SeqR.u rfl rfl (yl_store (vs := [.slice A139 ((((i_Table_rowsIn p_t p_store).getD k38 d_Row).Vals).length) c139]) ty70 rfl rfl rfl rfl rfl rfl hB144 (Nat.le_of_ble_eq_true rfl) ?_)
   intro w146 hB147 hO148
   have hB147 : Box w146 b140 70 [.slice A139 ((((i_Table_rowsIn p_t p_store).getD k38 d_Row).Vals).length) c139] := hB147
   have hO148z := hO148.size
   refine dn (CW.region (sd rfl (yl_move rfl rfl ?_)))
   have q150 := Box.only (Box.ex hf125 hE145) hO148 (by omega)
   refine sd rfl (yl_loadN ty33 rfl rfl (q150.cells (n := 3) rfl) rfl (sd rfl (yl_move rfl rfl (sd rfl (yl_loadN ty70 rfl rfl (hB147.cells (n := 1) rfl) rfl ?_)))))
   have q152 := RdS.only good_Str (RdS.ex good_Str hf126 hE145) hO148 (by simp only [Iv]; omega)
   have q154 := RdS.only good_Idx (RdS.ex good_Idx hf127 hE145) hO148 (by simp only [Iv]; omega)
   refine sd rfl (yl_call en69 rfl (oc rfl (oc rfl (oc rfl oz))) (Cal.mono (c_i_Table_idxKey p_t p_name ((i_Table_rowsIn p_t p_store).getD k38 d_Row) (RdS.up q152 good_Str) (RdS.up q154 good_Idx) (RdS.up (RdS.only good_Str (RdS.ex good_Str h139 hE145) hO148 (by simp only [Iv]; omega)) good_Str) o3 o4 (okL.getD ho34 ok_d_Row _) (by first | omega | assumption | (simp only [wI] at *; omega)) (by first | omega | assumption | (simp only [wI] at *; omega)) (by first | omega | assumption | (simp only [wI] at *; omega)) hrow.2) ?_))
   rintro v159 w157 ⟨rfl, ho158, hE160⟩
   have hE160z := Ex.size hE160
   refine sd rfl (yl_buildSlice (cs := [.string (bs ((i_Table_idxKey p_t p_name ((i_Table_rowsIn p_t p_store).getD k38 d_Row))))]) un22 ty9 (by decide) rfl (oc rfl oz) (by kernel_rfl) ?_)
   intro b161 w162 hs163 hz164 hB165 hE166
   have hO167 : OwnL w162 b161 (b161 + 1) 9 1 (RF e_Str) (some ⟨b161, 0, none⟩) 1 1 ([(i_Table_idxKey p_t p_name ((i_Table_rowsIn p_t p_store).getD k38 d_Row))] : List Str) := OwnL.of_box (S := fun _ => False) hB165 (Nat.le_refl _) (Nat.lt_succ_self _) (EncL.cons (c := [.string (bs ((i_Table_idxKey p_t p_name ((i_Table_rowsIn p_t p_store).getD k38 d_Row))))]) rfl rfl EncL.nil) (Nat.le_of_ble_eq_true rfl) (fun h => h) (fun _ h => False.elim h)
   refine sd rfl (yl_appendL (S := (fun _ => False)) (lo := w32.heap.size) (hi := u103) (xs := x100) (ys := ([(i_Table_idxKey p_t p_name ((i_Table_rowsIn p_t p_store).getD k38 d_Row))] : List Str)) good_Str un22 ty9 rfl (Nat.le_of_ble_eq_true rfl) rfl rfl rfl (OwnL.ex good_Str (OwnL.ex good_Str (OwnL.only good_Str (OwnL.ex good_Str hf128 hE145) hO148 (by omega)) hE160) hE166) (EncL.cons (c := [.string (bs ((i_Table_idxKey p_t p_name ((i_Table_rowsIn p_t p_store).getD k38 d_Row))))]) rfl rfl EncL.nil) (Or.inr ⟨_, _, rfl, rfl, hB165.cells (o := 0) (n := 1) rfl⟩) rfl (by first | omega | (simp only [List.length_append, List.length_cons, List.length_nil, List.length_take, List.length_drop, List.length_replicate, List.length_set, toS_length]; omega)) (by first | omega | (simp only [List.length_append, List.length_cons, List.length_nil, List.length_take, List.length_drop, List.length_replicate, List.length_set, toS_length]; omega)) (by omega) (by omega) (fun _ h _ => False.elim h) (by omega) ?_)
   intro A172 c173 w174 row175 hO176 hG177 hrg178
   have hG177z := hG177.size
   refine sd rfl (yl_assign rfl rfl (SeqR.done (bn (tn (CW.region (sd rfl (yl_inc rfl rfl rfl (by omega) (sd rfl (yl_move rfl rfl (dn ?_))))))))))
   have hB179 : B_i_Table_keysIn_0 p_t p_name p_store k38 (x100) = .cont ((x100 ++ ([(i_Table_idxKey p_t p_name ((i_Table_rowsIn p_t p_store).getD k38 d_Row))] : List Str))) := by simp only [B_i_Table_keysIn_0, cL]
   exact ⟨(i_Table_rowsIn p_t p_store).length - (k38 + 1), by omega, k38 + 1, (x100 ++ ([(i_Table_idxKey p_t p_name ((i_Table_rowsIn p_t p_store).getD k38 d_Row))] : List Str)), A172, c173, w174.heap.size, rfl, hlt136, (by omega), rfl, rfl, rfl, rfl, rfl, rfl, (Box.grown (Box.ex (Box.ex q150 hE160) hE166) hG177 (fun k hk => by have := hrg178 k hk; omega)), (RdS.grown good_Str (RdS.ex good_Str (RdS.ex good_Str q152 hE160) hE166) hG177 (fun k hk => by have := hrg178 k hk; simp only [Iv]; omega)), (RdS.grown good_Idx (RdS.ex good_Idx (RdS.ex good_Idx q154 hE160) hE166) hG177 (fun k hk => by have := hrg178 k hk; simp only [Iv]; omega)), hO176, (OwnD.grown goodO_Row (OwnD.ex goodO_Row (OwnD.ex goodO_Row (OwnD.only goodO_Row (OwnD.ex goodO_Row hf129 hE145) hO148 (by omega)) hE160) hE166) hG177 (fun k hk => by have := hrg178 k hk; omega)), (Below.grown (Ex.trans (Ex.trans (Below.only (Ex.trans hf130 hE145) hO148 (by omega)) hE160) hE166) hG177 (by omega) (fun k hk => by have := hrg178 k hk; omega)), (by omega), (by first | omega | (simp only [List.length_append, List.length_cons, List.length_nil, List.length_set, toS_length]; omega)), (okE.append hok133 ((okL.mk (Nat.le_of_ble_eq_true rfl) (okE.cons ho158 okE.nil))).2), (loopM.cont hlt136 hB179).symm.trans hI117⟩
  ·refine CW.seq (CW.region (sd rfl (yl_lss rfl rfl rfl (dn (CW.seq (CW.cond_f rfl (lt_f hlt136) (CW.exit (tx ?_))))))))
   refine tx ?_
   have hL199 : loopM (B_i_Table_keysIn_0 p_t p_name p_store) ((i_Table_rowsIn p_t p_store).length - 0) 0 (([] : List Str)) = .done (x100) := hI117.symm.trans (loopM.stop hlt136)
   refine bx (tn (CW.seq (CW.region (sd rfl (yl_move rfl rfl (sd rfl (yl_assign rfl rfl (dn (CW.ret ?_)))))))))
   refine rr rfl (.cons rfl .nil) ?_
   have hM200 : (i_Table_keysIn p_t p_name p_store) = (x100) := by simp only [i_Table_keysIn, hL199, cL]
   rw [hM200]
   exact ⟨A101, c102, w32.heap.size, u103, rfl, hf128, (okL.mk (xs := x100) (by first | omega | (simp only [List.length_append, List.length_cons, List.length_nil, List.length_take, List.length_drop, List.length_replicate, List.length_set, toS_length]; omega)) hok133), (by omega), hf130⟩
theorem c_g_internal_bytealg_Cutover {w : World} (p_n : Int) : Cal Tryz.prog 120 #[.int .i64 (p_n)] w fun v w' => v = .int .i64 ((g_internal_bytealg_Cutover p_n)) ∧ Ex w w' := by
 refine Cal.of func120 rfl ntmps120 rfl (CW.seq (CW.region (sd rfl (yl_assign rfl rfl (dn (CW.seq (CW.region (sd rfl (yl_move rfl rfl ?_)))))))))
 refine sd rfl (yl_add rfl rfl rfl (sd rfl (yl_quo rfl rfl rfl (by decide) (sd rfl (yl_assign rfl rfl (dn (CW.ret (rr rfl (.cons rfl .nil) ?_))))))))
 have hM1 : (g_internal_bytealg_Cutover p_n) = (IntKind.wrap .i64 (Int.tdiv (IntKind.wrap .i64 (p_n + 16)) 8)) := by simp only [g_internal_bytealg_Cutover, cL]
 rw [hM1]
 exact ⟨rfl, (Ex.refl w)⟩
theorem c_g_internal_stringslite_Index {w : World} (p_0 : Str) (p_1 : Str) (o1 : okS p_0) (o2 : okS p_1) (pre0 : p_1.length = 1) : Cal Tryz.prog 109 #[.string (bs (p_0)), .string (bs (p_1))] w fun v w' => v = .int .i64 ((g_internal_stringslite_Index p_0 p_1)) ∧ Ex w w' := by
 have hol3 : p_0.length ≤ 1073741824 := o1
 have hol4 : p_1.length ≤ 1073741824 := o2
 refine Cal.of func109 rfl ntmps109 rfl (CW.seq (CW.region (sd rfl (yl_assign rfl rfl (dn (CW.seq (CW.region (sd rfl (yl_move rfl rfl ?_)))))))))
 refine sd rfl (yl_slen un9 (a := p_1) rfl rfl (sd rfl (yl_assign rfl rfl (dn (CW.seq (CW.block (CW.seq (CW.region (sd rfl (yl_move rfl rfl ?_))))))))))
 refine sd rfl (yl_eql rfl rfl rfl (sd rfl (yl_move rfl rfl (sy rfl rfl (decide_eq_false (by omega)) (yl_move rfl rfl (sy rfl rfl (decide_eq_false (by omega)) (yl_move rfl rfl (sy rfl rfl (decide_eq_false (by omega)) (yl_seql (a := p_1) (b := p_0) rfl rfl rfl (sd rfl (yl_pick_f rfl rfl (decide_eq_false (by omega)) rfl (sd rfl (yl_assign rfl rfl (dn ?_))))))))))))))
 refine bcase (p_1 == p_0) (fun hb5 => ?_) (fun hb5 => ?_)
 ·refine CW.cond_t rfl hb5 (CW.seq (CW.region (sd rfl (yl_assign rfl rfl (dn (CW.ret (br (tr ?_))))))))
  refine rr rfl (.cons rfl .nil) ?_
  have hM6 : (g_internal_stringslite_Index p_0 p_1) = (0) := by simp only [g_internal_stringslite_Index, hb5, cL]
  rw [hM6]
  exact ⟨rfl, (Ex.refl w)⟩
 ·refine CW.cond_f rfl hb5 (CW.seq (CW.region (sd rfl (yl_move rfl rfl (sd rfl (yl_eql rfl rfl rfl (sd rfl (yl_assign rfl rfl (dn (CW.cond_t rfl (decide_eq_true (by omega)) ?_))))))))))
  refine CW.seq (CW.region (sd rfl (yl_move rfl rfl (sd rfl (yl_move rfl rfl (sd rfl (yl_sindexN un9 (a := p_1) rfl rfl rfl (by first | omega | assumption | (simp only [wI] at *; omega)) (sd rfl (yl_call en118 rfl (oc rfl (oc rfl oz)) (Cal.mono (c_g_internal_stringslite_IndexByte p_0 ((p_1.getD 0 0).toNat : Int) o1) ?_))))))))))
  rintro v8 w7 ⟨rfl, hE9⟩
  have hE9z := Ex.size hE9
  refine sd rfl (yl_assign rfl rfl (dn (CW.ret (br (tr (rr rfl (.cons rfl .nil) ?_))))))
  have hM10 : (g_internal_stringslite_Index p_0 p_1) = ((g_internal_stringslite_IndexByte p_0 ((p_1.getD 0 0).toNat : Int))) := by simp only [g_internal_stringslite_Index, hb5, cL]
  rw [hM10]
  exact ⟨rfl, (Ex.trans (Ex.refl w) hE9)⟩
theorem c_g_internal_stringslite_Cut {w : World} (p_s : Str) (p_sep : Str) (o1 : okS p_s) (o2 : okS p_sep) (pre0 : p_sep.length = 1) : Cal Tryz.prog 102 #[.string (bs (p_s)), .string (bs (p_sep))] w fun v w' => v = .tuple #[.string (bs ((g_internal_stringslite_Cut p_s p_sep).1)), .string (bs ((g_internal_stringslite_Cut p_s p_sep).2.1)), .bool ((g_internal_stringslite_Cut p_s p_sep).2.2)] ∧ okS ((g_internal_stringslite_Cut p_s p_sep).1) ∧ okS ((g_internal_stringslite_Cut p_s p_sep).2.1) ∧ Ex w w' := by
 have hol3 : p_s.length ≤ 1073741824 := o1
 have hol4 : p_sep.length ≤ 1073741824 := o2
 refine Cal.of func102 rfl ntmps102 rfl (CW.seq (CW.region (sd rfl (yl_assign rfl rfl (sd rfl (yl_assign rfl rfl (sd rfl (yl_assign rfl rfl (dn (CW.seq ?_))))))))))
 refine CW.seq (CW.region (sd rfl (yl_move rfl rfl (sd rfl (yl_move rfl rfl (sd rfl (yl_call en109 rfl (oc rfl (oc rfl oz)) (Cal.mono (c_g_internal_stringslite_Index p_s p_sep o1 o2 (by first | omega | assumption | (simp only [wI] at *; omega))) ?_))))))))
 rintro v6 w5 ⟨rfl, hE7⟩
 have hE7z := Ex.size hE7
 have hrf8 := rf_Index (s := p_s) (sub := p_sep) (by first | omega | assumption | (simp only [wI] at *; omega))
 refine sd rfl (yl_assign rfl rfl (dn (CW.seq (CW.region (sd rfl (yl_move rfl rfl (sd rfl (yl_geq rfl rfl rfl (dn ?_)))))))))
 refine bcase (decide (0 ≤ (g_internal_stringslite_Index p_s p_sep))) (fun hb9 => ?_) (fun hb9 => ?_)
 ·have hb9p := dec_t hb9
  have hb9q := f_Cut o1 pre0 hb9
  refine CW.cond_t rfl hb9 (CW.seq (CW.drawsI 12 (vgetI ([.string (bs (p_s)), .int .i64 ((g_internal_stringslite_Index p_s p_sep)), .string (bs ((p_s.take (((g_internal_stringslite_Index p_s p_sep)).toNat)))), .string (bs (p_s)), .int .i64 ((g_internal_stringslite_Index p_s p_sep)), .string (bs (p_sep)), .int .i64 ((p_sep.length : Int)), .int .i64 (IntKind.wrap .i64 ((g_internal_stringslite_Index p_s p_sep) + (p_sep.length : Int))), .string (bs ((p_s.drop ((IntKind.wrap .i64 ((g_internal_stringslite_Index p_s p_sep) + (p_sep.length : Int))).toNat)))), .string (bs ((p_s.take (((g_internal_stringslite_Index p_s p_sep)).toNat)))), .string (bs ((p_s.drop ((IntKind.wrap .i64 ((g_internal_stringslite_Index p_s p_sep) + (p_sep.length : Int))).toNat)))), .bool (true)].map DetI)) Tryz.follows rfl rfl rfl rfl rfl rfl (vgetI_stable (stD _)) ⟨?_, ?_, ?_, ?_, ?_, ?_, ?_, ?_, ?_, ?_, ?_, ?_, trivial⟩ ?_))
  ·exact oI rfl fun h => yl_move rfl (h.old 0 _ rfl rfl) kI
  ·exact oI rfl fun h => yl_move rfl (h.old 7 _ rfl rfl) kI
  ·intro L20 w21 hi22
   have hE23 := hi22.ex
   have hE23z := Ex.size hE23
   exact os rfl ((yl_sslice_hi un9 (a := p_s) (h := ((g_internal_stringslite_Index p_s p_sep)).toNat) rfl (hi22.dt 0 13 rfl rfl rfl) (toNat_op (hi22.dt 1 14 rfl rfl rfl) (by omega)) (by omega) kI))
  ·exact oI rfl fun h => yl_move rfl (h.old 0 _ rfl rfl) kI
  ·exact oI rfl fun h => yl_move rfl (h.old 7 _ rfl rfl) kI
  ·exact oI rfl fun h => yl_move rfl (h.old 1 _ rfl rfl) kI
  ·exact oI rfl fun h => yl_slen un9 (a := p_sep) rfl (h.dt 5 18 rfl rfl rfl) kI
  ·exact oI rfl fun h => yl_add rfl (h.dt 4 17 rfl rfl rfl) (h.dt 6 19 rfl rfl rfl) kI
  ·intro L52 w53 hi54
   have hE55 := hi54.ex
   have hE55z := Ex.size hE55
   exact os rfl ((yl_sslice_lo un9 (a := p_s) (l := (IntKind.wrap .i64 ((g_internal_stringslite_Index p_s p_sep) + (p_sep.length : Int))).toNat) rfl (hi54.dt 3 16 rfl rfl rfl) (toNat_op (hi54.dt 7 20 rfl rfl rfl) (by omega)) (by omega) kI))
  ·exact oI rfl fun h => yl_assign rfl (h.dt 2 15 rfl rfl rfl) kI
  ·exact oI rfl fun h => yl_assign rfl (h.dt 8 21 rfl rfl rfl) kI
  ·exact oI rfl fun _ => yl_assign rfl rfl kI
  ·intro fl75 fh76 L72 w73 hp74
   have hE77 := hp74.ex
   have hE77z := Ex.size hE77
   refine dn (CW.sub (Sub.cons (d := 4) (hp74.nt 9 4 rfl rfl rfl) (Sub.cons (d := 5) (hp74.nt 10 5 rfl rfl rfl) (Sub.cons (d := 6) (hp74.nt 11 6 rfl rfl rfl) (Sub.nil _)))) (CW.ret (tr (rr rfl (.cons rfl (.cons rfl (.cons rfl .nil))) ?_))))
   have hM81 : (g_internal_stringslite_Cut p_s p_sep) = (((p_s.take (((g_internal_stringslite_Index p_s p_sep)).toNat)), (p_s.drop ((IntKind.wrap .i64 ((g_internal_stringslite_Index p_s p_sep) + (p_sep.length : Int))).toNat)), true)) := by simp only [g_internal_stringslite_Cut, hb9, cL]
   rw [hM81]
   exact ⟨rfl, (okS.take o1 _), (okS.drop o1 _), (Ex.trans (Ex.trans (Ex.refl w) hE7) hE77)⟩
 ·have hb9p := dec_f hb9
  refine CW.cond_f rfl hb9 (CW.skip (tn (CW.seq (CW.region (sd rfl (yl_move rfl rfl (sd rfl (yl_assign rfl rfl (sd rfl (yl_assign rfl rfl (sd rfl (yl_assign rfl rfl ?_))))))))))))
  refine dn (CW.ret (rr rfl (.cons rfl (.cons rfl (.cons rfl .nil))) ?_))
  have hM84 : (g_internal_stringslite_Cut p_s p_sep) = ((p_s, ([] : Str), false)) := by simp only [g_internal_stringslite_Cut, hb9, cL]
  rw [hM84]
  exact ⟨rfl, o1, (okS.lit rfl), (Ex.trans (Ex.refl w) hE7)⟩
theorem c_g_strings_Cut {w : World} (p_s : Str) (p_sep : Str) (o1 : okS p_s) (o2 : okS p_sep) (pre0 : p_sep.length = 1) : Cal Tryz.prog 91 #[.string (bs (p_s)), .string (bs (p_sep))] w fun v w' => v = .tuple #[.string (bs ((g_strings_Cut p_s p_sep).1)), .string (bs ((g_strings_Cut p_s p_sep).2.1)), .bool ((g_strings_Cut p_s p_sep).2.2)] ∧ okS ((g_strings_Cut p_s p_sep).1) ∧ okS ((g_strings_Cut p_s p_sep).2.1) ∧ Ex w w' := by
 have hol3 : p_s.length ≤ 1073741824 := o1
 have hol4 : p_sep.length ≤ 1073741824 := o2
 refine Cal.of func91 rfl ntmps91 rfl (CW.seq (CW.region (sd rfl (yl_assign rfl rfl (sd rfl (yl_assign rfl rfl (sd rfl (yl_assign rfl rfl (dn (CW.seq ?_))))))))))
 refine CW.region (sd rfl (yl_move rfl rfl (sd rfl (yl_move rfl rfl (sd rfl (yl_call en102 rfl (oc rfl (oc rfl oz)) (Cal.mono (c_g_internal_stringslite_Cut p_s p_sep o1 o2 (by first | omega | assumption | (simp only [wI] at *; omega))) ?_)))))))
 rintro v8 w5 ⟨rfl, ho6, ho7, hE9⟩
 have hE9z := Ex.size hE9
 refine sd rfl (yl_extract rfl rfl rfl (sd rfl (yl_extract rfl rfl rfl (sd rfl (yl_extract rfl rfl rfl (sd rfl (yl_assign rfl rfl (sd rfl (yl_assign rfl rfl (sd rfl (yl_assign rfl rfl (dn (CW.ret ?_)))))))))))))
 refine rr rfl (.cons rfl (.cons rfl (.cons rfl .nil))) ?_
 have hM10 : (g_strings_Cut p_s p_sep) = (((g_internal_stringslite_Cut p_s p_sep).1, (g_internal_stringslite_Cut p_s p_sep).2.1, (g_internal_stringslite_Cut p_s p_sep).2.2)) := by simp only [g_strings_Cut, cL]
 rw [hM10]
 exact ⟨rfl, ho6, ho7, (Ex.trans (Ex.refl w) hE9)⟩
theorem c_i_Table_readIdxKey {A1 : Option Addr} {c1 : Nat} {A2 : Option Addr} {c2 : Nat} {w : World} (p_t : DTable) (p_name : Str) (p_key : Str) (h1 : RdS w (Iv 0 w.heap.size) (RF e_Str) 1 A1 p_t.Cols.length c1 p_t.Cols) (h2 : RdS w (Iv 0 w.heap.size) (RF e_Idx) 3 A2 p_t.Idxs.length c2 p_t.Idxs) (o3 : ok_Table p_t) (o4 : okS p_name) (o5 : okS p_key) (pre0 : (p_t.Name.length ≤ 1 ∧ p_name.length ≤ 1)) : Cal Tryz.prog 70 #[.agg #[.string (bs (p_t.Name)), .slice A1 p_t.Cols.length c1, .slice A2 p_t.Idxs.length c2], .string (bs (p_name)), .string (bs (p_key))] w fun v w' => v = .tuple #[.string (bs ((i_Table_readIdxKey p_t p_name p_key).1)), .string (bs ((i_Table_readIdxKey p_t p_name p_key).2.1)), .bool ((i_Table_readIdxKey p_t p_name p_key).2.2)] ∧ okS ((i_Table_readIdxKey p_t p_name p_key).1) ∧ okS ((i_Table_readIdxKey p_t p_name p_key).2.1) ∧ Ex w w' := by
 refine Cal.of func70 rfl ntmps70 rfl (CW.seq (CW.region (sd rfl (yl_box rfl rfl rfl ?_))))
 intro b11 w12 hs13 hz14 hB15 hE16
 refine sd rfl (yl_assign rfl rfl (sd rfl (yl_assign rfl rfl (sd rfl (yl_assign rfl rfl (dn (CW.seq (CW.region (sd rfl (yl_move rfl rfl (sd rfl (yl_loadN ty33 rfl rfl (hB15.cells (n := 3) rfl) rfl ?_))))))))))))
 refine sd rfl (yl_move rfl rfl (sd rfl (yl_call en88 rfl (oc rfl (oc rfl oz)) (Cal.mono (c_i_Table_idxHead p_t p_name (RdS.up (RdS.ex good_Str h1 hE16) good_Str) (RdS.up (RdS.ex good_Idx h2 hE16) good_Idx) o3 o4) ?_))))
 rintro v20 w19 ⟨rfl, hE21⟩
 have hrf22 := rf_idxHead p_t p_name
 refine sd rfl (yl_call en90 rfl (oc rfl (oc rfl oz)) (Cal.mono (c_g_strings_CutPrefix p_key (i_Table_idxHead p_t p_name) o5 (okS_idxHead pre0)) ?_))
 rintro v25 w23 ⟨rfl, ho24, hE26⟩
 refine sd rfl (yl_move rfl rfl (sd rfl (yl_extract rfl rfl rfl (sd rfl (yl_extract rfl rfl rfl (sd rfl (yl_assign rfl rfl (sd rfl (yl_assign rfl rfl (dn (CW.seq (CW.region ?_))))))))))))
 refine sd rfl (yl_move rfl rfl (sd rfl (yl_call en91 rfl (oc rfl (oc rfl oz)) (Cal.mono (c_g_strings_Cut ((g_strings_CutPrefix p_key (i_Table_idxHead p_t p_name)).1) ([47] : Str) ho24 (okS.lit rfl) rfl) ?_))))
 rintro v30 w27 ⟨rfl, ho28, ho29, hE31⟩
 refine sd rfl (yl_move rfl rfl (sd rfl (yl_extract rfl rfl rfl (sd rfl (yl_extract rfl rfl rfl (sd rfl (yl_extract rfl rfl rfl (sd rfl (yl_assign rfl rfl (sd rfl (yl_assign rfl rfl (sd rfl (yl_assign rfl rfl (dn ?_))))))))))))))
 refine CW.seq (CW.seq (CW.region (sd rfl (yl_move rfl rfl (sd rfl (yl_not rfl rfl (sd rfl (yl_move rfl rfl (bcase ((g_strings_CutPrefix p_key (i_Table_idxHead p_t p_name)).2) (fun hb32 => ?_) (fun hb32 => ?_))))))))))
 ·refine sy rfl rfl (not_t hb32) (yl_move rfl rfl (sy rfl rfl (not_t hb32) (yl_not rfl rfl (sd rfl (yl_pick_f rfl rfl (not_t hb32) rfl (sd rfl (yl_move rfl rfl (bcase ((g_strings_Cut ((g_strings_CutPrefix p_key (i_Table_idxHead p_t p_name)).1) ([47] : Str)).2.2) (fun hb33 => ?_) (fun hb33 => ?_)))))))))
  ·refine sy rfl rfl (not_t hb33) (yl_move rfl rfl (sy rfl rfl (not_t hb33) (yl_call en92 rfl (oc rfl oz) (Cal.mono (c_i_isField ((g_strings_Cut ((g_strings_CutPrefix p_key (i_Table_idxHead p_t p_name)).1) ([47] : Str)).1) ho28) ?_))))
   rintro v35 w34 ⟨rfl, hE36⟩
   refine sy rfl rfl (not_t hb33) (yl_not rfl rfl (sd rfl (yl_pick_f rfl rfl (not_t hb33) rfl (sd rfl (yl_move rfl rfl (bcase (i_isField ((g_strings_Cut ((g_strings_CutPrefix p_key (i_Table_idxHead p_t p_name)).1) ([47] : Str)).1)) (fun hb37 => ?_) (fun hb37 => ?_)))))))
   ·refine sy rfl rfl (not_t hb37) (yl_move rfl rfl (sy rfl rfl (not_t hb37) (yl_call en92 rfl (oc rfl oz) (Cal.mono (c_i_isField ((g_strings_Cut ((g_strings_CutPrefix p_key (i_Table_idxHead p_t p_name)).1) ([47] : Str)).2.1) ho29) ?_))))
    rintro v39 w38 ⟨rfl, hE40⟩
    refine sy rfl rfl (not_t hb37) (yl_not rfl rfl (sd rfl (yl_pick_f rfl rfl (not_t hb37) rfl (dn (bcase (i_isField ((g_strings_Cut ((g_strings_CutPrefix p_key (i_Table_idxHead p_t p_name)).1) ([47] : Str)).2.1)) (fun hb41 => ?_) (fun hb41 => ?_))))))
    ·refine CW.cond_f rfl (not_t hb41) (CW.skip (tn (CW.seq (CW.region (sd rfl (yl_move rfl rfl (sd rfl (yl_move rfl rfl (sd rfl (yl_assign rfl rfl (sd rfl (yl_assign rfl rfl ?_))))))))))))
     refine sd rfl (yl_assign rfl rfl (dn (CW.ret (rr rfl (.cons rfl (.cons rfl (.cons rfl .nil))) ?_))))
     have hM42 : (i_Table_readIdxKey p_t p_name p_key) = (((g_strings_Cut ((g_strings_CutPrefix p_key (i_Table_idxHead p_t p_name)).1) ([47] : Str)).1, (g_strings_Cut ((g_strings_CutPrefix p_key (i_Table_idxHead p_t p_name)).1) ([47] : Str)).2.1, true)) := by simp only [i_Table_readIdxKey, hb32, hb33, hb37, hb41, cL]
     rw [hM42]
     exact ⟨rfl, ho28, ho29, (Ex.trans (Ex.trans (Ex.trans (Ex.trans (Ex.trans (Ex.trans (Ex.refl w) hE16) hE21) hE26) hE31) hE36) hE40)⟩
    ·refine CW.cond_t rfl (not_f hb41) (CW.seq (CW.region (sd rfl (yl_assign rfl rfl (sd rfl (yl_assign rfl rfl (sd rfl (yl_assign rfl rfl (dn (CW.ret ?_))))))))))
     refine tr (rr rfl (.cons rfl (.cons rfl (.cons rfl .nil))) ?_)
     have hM49 : (i_Table_readIdxKey p_t p_name p_key) = ((([] : Str), ([] : Str), false)) := by simp only [i_Table_readIdxKey, hb32, hb33, hb37, hb41, cL]
     rw [hM49]
     exact ⟨rfl, (okS.lit rfl), (okS.lit rfl), (Ex.trans (Ex.trans (Ex.trans (Ex.trans (Ex.trans (Ex.trans (Ex.refl w) hE16) hE21) hE26) hE31) hE36) hE40)⟩
   ·refine sz rfl rfl (not_f hb37) (sz rfl rfl (not_f hb37) (sz rfl rfl (not_f hb37) (sd rfl (yl_pick_t rfl rfl (not_f hb37) rfl (dn (CW.cond_t rfl rfl (CW.seq (CW.region ?_))))))))
    refine sd rfl (yl_assign rfl rfl (sd rfl (yl_assign rfl rfl (sd rfl (yl_assign rfl rfl (dn (CW.ret (tr (rr rfl (.cons rfl (.cons rfl (.cons rfl .nil))) ?_)))))))))
    have hM56 : (i_Table_readIdxKey p_t p_name p_key) = ((([] : Str), ([] : Str), false)) := by simp only [i_Table_readIdxKey, hb32, hb33, hb37, cL]
    rw [hM56]
    exact ⟨rfl, (okS.lit rfl), (okS.lit rfl), (Ex.trans (Ex.trans (Ex.trans (Ex.trans (Ex.trans (Ex.refl w) hE16) hE21) hE26) hE31) hE36)⟩
  ·refine sz rfl rfl (not_f hb33) (sz rfl rfl (not_f hb33) (sz rfl rfl (not_f hb33) (sd rfl (yl_pick_t rfl rfl (not_f hb33) rfl (sd rfl (yl_move rfl rfl (sz rfl rfl rfl (sz rfl rfl rfl (sz rfl rfl rfl (sd rfl (yl_pick_t rfl rfl rfl rfl ?_)))))))))))
   refine dn (CW.cond_t rfl rfl (CW.seq (CW.region (sd rfl (yl_assign rfl rfl (sd rfl (yl_assign rfl rfl (sd rfl (yl_assign rfl rfl (SeqR.done ?_))))))))))
   refine tn (CW.ret (tr (rr rfl (.cons rfl (.cons rfl (.cons rfl .nil))) ?_)))
   have hM62 : (i_Table_readIdxKey p_t p_name p_key) = ((([] : Str), ([] : Str), false)) := by simp only [i_Table_readIdxKey, hb32, hb33, cL]
   rw [hM62]
   exact ⟨rfl, (okS.lit rfl), (okS.lit rfl), (Ex.trans (Ex.trans (Ex.trans (Ex.trans (Ex.refl w) hE16) hE21) hE26) hE31)⟩
 ·refine sz rfl rfl (not_f hb32) (sz rfl rfl (not_f hb32) (sd rfl (yl_pick_t rfl rfl (not_f hb32) rfl (sd rfl (yl_move rfl rfl (sz rfl rfl rfl (sz rfl rfl rfl (sz rfl rfl rfl (sd rfl (yl_pick_t rfl rfl rfl rfl (sd rfl (yl_move rfl rfl ?_))))))))))))
  refine sz rfl rfl rfl (sz rfl rfl rfl (sz rfl rfl rfl (sd rfl (yl_pick_t rfl rfl rfl rfl (dn (CW.cond_t rfl rfl (CW.seq (CW.region ?_))))))))
  refine sd rfl (yl_assign rfl rfl (sd rfl (yl_assign rfl rfl (sd rfl (yl_assign rfl rfl (dn (CW.ret (tr (rr rfl (.cons rfl (.cons rfl (.cons rfl .nil))) ?_)))))))))
  have hM67 : (i_Table_readIdxKey p_t p_name p_key) = ((([] : Str), ([] : Str), false)) := by simp only [i_Table_readIdxKey, hb32, cL]
  rw [hM67]
  exact ⟨rfl, (okS.lit rfl), (okS.lit rfl), (Ex.trans (Ex.trans (Ex.trans (Ex.trans (Ex.refl w) hE16) hE21) hE26) hE31)⟩
theorem c_i_Table_entriesIn {A1 : Option Addr} {c1 : Nat} {A2 : Option Addr} {c2 : Nat} {A5 : Option Addr} {c5 : Nat} {w : World} (p_t : DTable) (p_name : Str) (p_store : List DWrite) (h1 : RdS w (Iv 0 w.heap.size) (RF e_Str) 1 A1 p_t.Cols.length c1 p_t.Cols) (h2 : RdS w (Iv 0 w.heap.size) (RF e_Idx) 3 A2 p_t.Idxs.length c2 p_t.Idxs) (h5 : RdS w (Iv 0 w.heap.size) (RF e_Write) 3 A5 p_store.length c5 p_store) (o3 : ok_Table p_t) (o4 : okS p_name) (o6 : (okL ok_Write) p_store) (pre0 : (p_t.Name.length ≤ 1 ∧ p_name.length ≤ 1)) : Cal Tryz.prog 50 #[.agg #[.string (bs (p_t.Name)), .slice A1 p_t.Cols.length c1, .slice A2 p_t.Idxs.length c2], .string (bs (p_name)), .slice A5 p_store.length c5] w fun v w' => ∃ A_1 c_1 lo_1 hi_1, v = .slice A_1 ((i_Table_entriesIn p_t p_name p_store).length) c_1 ∧ OwnL w' lo_1 hi_1 9 1 (RF e_Str) A_1 ((i_Table_entriesIn p_t p_name p_store).length) c_1 (i_Table_entriesIn p_t p_name p_store) ∧ (okL okS) (i_Table_entriesIn p_t p_name p_store) ∧ (w.heap.size ≤ lo_1 ∧ lo_1 ≤ hi_1 ∧ hi_1 ≤ w'.heap.size) ∧ Ex w w' := by
 have hol7 : p_t.Name.length ≤ 1073741824 := o3.1
 have hol8 := o3.2.1.1
 have hol9 := o3.2.2.1
 have hol10 : p_name.length ≤ 1073741824 := o4
 have hol11 := o6.1
 refine Cal.of func50 rfl ntmps50 rfl (CW.seq (CW.region (sd rfl (yl_box rfl rfl rfl ?_))))
 intro b12 w13 hs14 hz15 hB16 hE17
 refine sd rfl (yl_assign rfl rfl (dn (CW.seq (CW.region (sd rfl (yl_buildSlice (cs := []) un22 ty9 (by decide) rfl opvs_nil (by kernel_rfl) ?_))))))
 intro b18 w19 hs20 hz21 hB22 hE23
 have hO24 : OwnL w19 b18 (b18 + 1) 9 1 (RF e_Str) (some ⟨b18, 0, none⟩) 0 0 ([] : List Str) := OwnL.of_box (S := fun _ => False) hB22 (Nat.le_refl _) (Nat.lt_succ_self _) EncL.nil (Nat.le_of_ble_eq_true rfl) (fun h => h) (fun _ h => False.elim h)
 refine sd rfl (yl_assign rfl rfl (dn (CW.seq (CW.seq (CW.region (sd rfl (yl_move rfl rfl (sd rfl (yl_len un35 rfl rfl (sd rfl (yl_move rfl rfl ?_)))))))))))
 refine dn (CW.block (CW.loop (fun m91 L92 w93 => ∃ (k25 : Nat) (x87 : List Str) (A88 : Option Addr) (c89 : Nat) (u90 : Nat), m91 = p_store.length - k25 ∧ k25 ≤ p_store.length ∧ w19.heap.size ≤ w93.heap.size ∧ lkp L92 1 = some (.string (bs (p_name))) ∧ lkp L92 3 = some (.pointer (some ⟨b12, 0, none⟩)) ∧ lkp L92 7 = some (.slice A88 x87.length c89) ∧ lkp L92 14 = some (.slice A5 p_store.length c5) ∧ lkp L92 15 = some (.int .i64 ((p_store.length : Int))) ∧ lkp L92 16 = some (.int .i64 ((k25 : Int))) ∧ Box w93 b12 33 [.string (bs (p_t.Name)), .slice A1 p_t.Cols.length c1, .slice A2 p_t.Idxs.length c2] ∧ RdS w93 (Iv 0 w.heap.size) (RF e_Str) 1 A1 p_t.Cols.length c1 p_t.Cols ∧ RdS w93 (Iv 0 w.heap.size) (RF e_Idx) 3 A2 p_t.Idxs.length c2 p_t.Idxs ∧ OwnL w93 b18 u90 9 1 (RF e_Str) A88 x87.length c89 x87 ∧ RdS w93 (Iv 0 w.heap.size) (RF e_Write) 3 A5 p_store.length c5 p_store ∧ Ex w w93 ∧ (b18 ≤ u90 ∧ u90 ≤ w93.heap.size) ∧ x87.length ≤ 0 + 1 * (k25 - 0) ∧ (∀ y ∈ x87, okS y) ∧ loopM (B_i_Table_entriesIn_0 p_t p_name p_store) (p_store.length - k25) k25 (x87) = loopM (B_i_Table_entriesIn_0 p_t p_name p_store) (p_store.length - 0) 0 (([] : List Str))) (p_store.length - 0) ?_ ?_))
 ·exact ⟨0, ([] : List Str), (some ⟨b18, 0, none⟩), 0, (b18 + 1), rfl, (by omega), Nat.le_refl _, rfl, rfl, rfl, rfl, rfl, rfl, (Box.ex hB16 hE23), (RdS.ex good_Str (RdS.ex good_Str h1 hE17) hE23), (RdS.ex good_Idx (RdS.ex good_Idx h2 hE17) hE23), hO24, (RdS.ex good_Write (RdS.ex good_Write h5 hE17) hE23), (Ex.trans (Ex.trans (Ex.refl w) hE17) hE23), (by omega), (by first | (simp; done) | (first | omega | (simp only [List.length_append, List.length_cons, List.length_nil, List.length_set, toS_length]; omega))), okE.nil, rfl⟩
 ·rintro m103 L104 w105 ⟨k25, x87, A88, c89, u90, rfl, hk106, hsz108, hl109, hl110, hl111, hl112, hl113, hl114, hf115, hf116, hf117, hf118, hf119, hf120, hu121, hln122, hok123, hI107⟩
  refine CW.sub (Sub.cons hl109 (Sub.cons hl110 (Sub.cons hl111 (Sub.cons hl112 (Sub.cons hl113 (Sub.cons hl114 (Sub.nil _))))))) ?_
  have hf115z := Box.lt hf115
  have hf120z := Ex.size hf120
  have hbg124 := RdS.big hf119
  rcases Nat.lt_or_ge k25 p_store.length with hlt125 | hlt125
  ·refine CW.seq (CW.region (sd rfl (yl_lss rfl rfl rfl (dn (CW.seq (CW.cond_t rfl (lt_t hlt125) (CW.skip (tn ?_))))))))
   refine CW.seq (CW.block (CW.seq (CW.region ?_)))
   obtain ⟨eb126, eo126, _, eA126, _, ebl126, _, eR126, eC126⟩ := RdS.aD hf119 d_Write (i := k25)
   obtain rfl := eR126
   have eC126 : Cells w105 eb126 (eo126 + k25 * 3) [.string (bs ((p_store.getD k25 d_Write).Key)), .string (bs ((p_store.getD k25 d_Write).Val)), .bool ((p_store.getD k25 d_Write).Gone)] := eC126
   refine sd rfl (yl_ixN un35 ty53 rfl rfl rfl eA126 (sd rfl (yl_loadN ty53 rfl rfl eC126 rfl (sd rfl (yl_alloc ty53 (cs := [.string (bs (([] : Str))), .string (bs (([] : Str))), .bool (false)]) rfl rfl ?_)))))
   intro b127 w128 hs129 hz130 hB131 hE132
   refine SeqR.u rfl rfl (yl_store (vs := [.string (bs ((p_store.getD k25 d_Write).Key)), .string (bs ((p_store.getD k25 d_Write).Val)), .bool ((p_store.getD k25 d_Write).Gone)]) ty53 rfl rfl rfl rfl rfl rfl hB131 (Nat.le_of_ble_eq_true rfl) ?_)
   intro w133 hB134 hO135
   have hB134 : Box w133 b127 53 [.string (bs ((p_store.getD k25 d_Write).Key)), .string (bs ((p_store.getD k25 d_Write).Val)), .bool ((p_store.getD k25 d_Write).Gone)] := hB134
   have hO135z := hO135.size
   refine dn (CW.seq (CW.region ?_))
   have q137 := Box.only (Box.ex hf115 hE132) hO135 (by omega)
   refine sd rfl (yl_loadN ty33 rfl rfl (q137.cells (n := 3) rfl) rfl (sd rfl (yl_move rfl rfl (sd rfl (yl_fieldAddr fd53_0 rfl rfl (sd rfl (yl_load1 ty9 rfl rfl ((hB134.cell 0).trans rfl) ?_)))))))
   have q139 := RdS.only good_Str (RdS.ex good_Str hf116 hE132) hO135 (by simp only [Iv]; omega)
   have q141 := RdS.only good_Idx (RdS.ex good_Idx hf117 hE132) hO135 (by simp only [Iv]; omega)
   refine sd rfl (yl_call en70 rfl (oc rfl (oc rfl (oc rfl oz))) (Cal.mono (c_i_Table_readIdxKey p_t p_name ((p_store.getD k25 d_Write).Key) (RdS.up q139 good_Str) (RdS.up q141 good_Idx) o3 o4 ((okL.getD o6 ok_d_Write _).1) (by first | omega | assumption | (simp only [wI] at *; omega))) ?_))
   rintro v145 w142 ⟨rfl, ho143, ho144, hE146⟩
   have hE146z := Ex.size hE146
   refine sd rfl (yl_move rfl rfl (sd rfl (yl_extract rfl rfl rfl (sd rfl (yl_extract rfl rfl rfl (sd rfl (yl_extract rfl rfl rfl (sd rfl (yl_assign rfl rfl (sd rfl (yl_assign rfl rfl (sd rfl (yl_assign rfl rfl (dn ?_))))))))))))))
   refine CW.seq (CW.region (sd rfl (yl_move rfl rfl (dn (bcase ((i_Table_readIdxKey p_t p_name ((p_store.getD k25 d_Write).Key)).2.2) (fun hb147 => ?_) (fun hb147 => ?_))))))
   ·refine CW.cond_t rfl hb147 (CW.region (sd rfl (yl_move rfl rfl (sd rfl (yl_fieldAddr fd53_0 rfl rfl (sd rfl (yl_load1 ty9 rfl rfl (((Box.ex hB134 hE146).cell 0).trans rfl) (sd rfl (yl_buildSlice (cs := [.string (bs ((p_store.getD k25 d_Write).Key))]) un22 ty9 (by decide) rfl (oc rfl oz) (by kernel_rfl) ?_)))))))))
    intro b149 w150 hs151 hz152 hB153 hE154
    have hO155 : OwnL w150 b149 (b149 + 1) 9 1 (RF e_Str) (some ⟨b149, 0, none⟩) 1 1 ([(p_store.getD k25 d_Write).Key] : List Str) := OwnL.of_box (S := fun _ => False) hB153 (Nat.le_refl _) (Nat.lt_succ_self _) (EncL.cons (c := [.string (bs ((p_store.getD k25 d_Write).Key))]) rfl rfl EncL.nil) (Nat.le_of_ble_eq_true rfl) (fun h => h) (fun _ h => False.elim h)
    refine sd rfl (yl_appendL (S := (fun _ => False)) (lo := b18) (hi := u90) (xs := x87) (ys := ([(p_store.getD k25 d_Write).Key] : List Str)) good_Str un22 ty9 rfl (Nat.le_of_ble_eq_true rfl) rfl rfl rfl (OwnL.ex good_Str (OwnL.ex good_Str (OwnL.only good_Str (OwnL.ex good_Str hf118 hE132) hO135 (by omega)) hE146) hE154) (EncL.cons (c := [.string (bs ((p_store.getD k25 d_Write).Key))]) rfl rfl EncL.nil) (Or.inr ⟨_, _, rfl, rfl, hB153.cells (o := 0) (n := 1) rfl⟩) rfl (by first | omega | (simp only [List.length_append, List.length_cons, List.length_nil, List.length_take, List.length_drop, List.length_replicate, List.length_set, toS_length]; omega)) (by first | omega | (simp only [List.length_append, List.length_cons, List.length_nil, List.length_take, List.length_drop, List.length_replicate, List.length_set, toS_length]; omega)) (by omega) (by omega) (fun _ h _ => False.elim h) (by omega) ?_)
    intro A160 c161 w162 row163 hO164 hG165 hrg166
    have hG165z := hG165.size
    refine sd rfl (yl_assign rfl rfl (SeqR.done (bn (tn (CW.region (sd rfl (yl_inc rfl rfl rfl (by omega) (sd rfl (yl_move rfl rfl (dn ?_))))))))))
    have hB167 : B_i_Table_entriesIn_0 p_t p_name p_store k25 (x87) = .cont ((x87 ++ ([(p_store.getD k25 d_Write).Key] : List Str))) := by simp only [B_i_Table_entriesIn_0, hb147, cL]
    exact ⟨p_store.length - (k25 + 1), by omega, k25 + 1, (x87 ++ ([(p_store.getD k25 d_Write).Key] : List Str)), A160, c161, w162.heap.size, rfl, hlt125, (by omega), rfl, rfl, rfl, rfl, rfl, rfl, (Box.grown (Box.ex (Box.ex q137 hE146) hE154) hG165 (fun k hk => by have := hrg166 k hk; omega)), (RdS.grown good_Str (RdS.ex good_Str (RdS.ex good_Str q139 hE146) hE154) hG165 (fun k hk => by have := hrg166 k hk; simp only [Iv]; omega)), (RdS.grown good_Idx (RdS.ex good_Idx (RdS.ex good_Idx q141 hE146) hE154) hG165 (fun k hk => by have := hrg166 k hk; simp only [Iv]; omega)), hO164, (RdS.grown good_Write (RdS.ex good_Write (RdS.ex good_Write (RdS.only good_Write (RdS.ex good_Write hf119 hE132) hO135 (by simp only [Iv]; omega)) hE146) hE154) hG165 (fun k hk => by have := hrg166 k hk; simp only [Iv]; omega)), (Below.grown (Ex.trans (Ex.trans (Below.only (Ex.trans hf120 hE132) hO135 (by omega)) hE146) hE154) hG165 (by omega) (fun k hk => by have := hrg166 k hk; omega)), (by omega), (by first | omega | (simp only [List.length_append, List.length_cons, List.length_nil, List.length_set, toS_length]; omega)), (okE.append hok123 ((okL.mk (Nat.le_of_ble_eq_true rfl) (okE.cons (okL.getD o6 ok_d_Write _).1 okE.nil))).2), (loopM.cont hlt125 hB167).symm.trans hI107⟩
   ·refine CW.cond_f rfl hb147 (CW.skip (bn (tn (CW.region (sd rfl (yl_inc rfl rfl rfl (by omega) (sd rfl (yl_move rfl rfl (dn ?_)))))))))
    have hB187 : B_i_Table_entriesIn_0 p_t p_name p_store k25 (x87) = .cont (x87) := by simp only [B_i_Table_entriesIn_0, hb147, cL]
    exact ⟨p_store.length - (k25 + 1), by omega, k25 + 1, x87, A88, c89, u90, rfl, hlt125, (by omega), rfl, rfl, rfl, rfl, rfl, rfl, (Box.ex q137 hE146), (RdS.ex good_Str q139 hE146), (RdS.ex good_Idx q141 hE146), (OwnL.ex good_Str (OwnL.only good_Str (OwnL.ex good_Str hf118 hE132) hO135 (by omega)) hE146), (RdS.ex good_Write (RdS.only good_Write (RdS.ex good_Write hf119 hE132) hO135 (by simp only [Iv]; omega)) hE146), (Ex.trans (Below.only (Ex.trans hf120 hE132) hO135 (by omega)) hE146), (by omega), (by first | omega | (simp only [List.length_append, List.length_cons, List.length_nil, List.length_set, toS_length]; omega)), hok123, (loopM.cont hlt125 hB187).symm.trans hI107⟩
  ·refine CW.seq (CW.region (sd rfl (yl_lss rfl rfl rfl (dn (CW.seq (CW.cond_f rfl (lt_f hlt125) (CW.exit (tx ?_))))))))
   refine tx ?_
   have hL200 : loopM (B_i_Table_entriesIn_0 p_t p_name p_store) (p_store.length - 0) 0 (([] : List Str)) = .done (x87) := hI107.symm.trans (loopM.stop hlt125)
   refine bx (tn (CW.seq (CW.region (sd rfl (yl_move rfl rfl (sd rfl (yl_assign rfl rfl (dn (CW.ret ?_)))))))))
   refine rr rfl (.cons rfl .nil) ?_
   have hM201 : (i_Table_entriesIn p_t p_name p_store) = (x87) := by simp only [i_Table_entriesIn, hL200, cL]
   rw [hM201]
   exact ⟨A88, c89, b18, u90, rfl, hf118, (okL.mk (xs := x87) (by first | omega | (simp only [List.length_append, List.length_cons, List.length_nil, List.length_take, List.length_drop, List.length_replicate, List.length_set, toS_length]; omega)) hok123), (by omega), hf120⟩
theorem c_i_Table_orphansIn {A1 : Option Addr} {c1 : Nat} {A2 : Option Addr} {c2 : Nat} {A5 : Option Addr} {c5 : Nat} {w : World} (p_t : DTable) (p_name : Str) (p_store : List DWrite) (h1 : RdS w (Iv 0 w.heap.size) (RF e_Str) 1 A1 p_t.Cols.length c1 p_t.Cols) (h2 : RdS w (Iv 0 w.heap.size) (RF e_Idx) 3 A2 p_t.Idxs.length c2 p_t.Idxs) (h5 : RdS w (Iv 0 w.heap.size) (RF e_Write) 3 A5 p_store.length c5 p_store) (o3 : ok_Table p_t) (o4 : okS p_name) (o6 : (okL ok_Write) p_store) (pre0 : i_hasIdx p_t p_name = true) : Cal Tryz.prog 36 #[.agg #[.string (bs (p_t.Name)), .slice A1 p_t.Cols.length c1, .slice A2 p_t.Idxs.length c2], .string (bs (p_name)), .slice A5 p_store.length c5] w fun v w' => ∃ A_1 c_1 lo_1 hi_1, v = .slice A_1 ((i_Table_orphansIn p_t p_name p_store).length) c_1 ∧ OwnL w' lo_1 hi_1 9 1 (RF e_Str) A_1 ((i_Table_orphansIn p_t p_name p_store).length) c_1 (i_Table_orphansIn p_t p_name p_store) ∧ (okL okS) (i_Table_orphansIn p_t p_name p_store) ∧ (w.heap.size ≤ lo_1 ∧ lo_1 ≤ hi_1 ∧ hi_1 ≤ w'.heap.size) ∧ Ex w w' := by
 have hol7 : p_t.Name.length ≤ 1073741824 := o3.1
 have hol8 := o3.2.1.1
 have hol9 := o3.2.2.1
 have hol10 : p_name.length ≤ 1073741824 := o4
 have hol11 := o6.1
 have hgi := f_i_hasIdx pre0
 refine Cal.of func36 rfl ntmps36 rfl (CW.seq (CW.region (sd rfl (yl_box rfl rfl rfl ?_))))
 intro b12 w13 hs14 hz15 hB16 hE17
 refine sd rfl (yl_assign rfl rfl (dn (CW.seq ?_)))
 have q18 := RdS.ex good_Str h1 hE17
 have q19 := RdS.ex good_Idx h2 hE17
 have q20 := RdS.ex good_Write h5 hE17
 refine CW.drawsI 7 (vgetI [DetI (.agg #[.string (bs (p_t.Name)), .slice A1 p_t.Cols.length c1, .slice A2 p_t.Idxs.length c2]), DetI (.string (bs (p_name))), DetI (.slice A5 p_store.length c5), fun lo hi v wq => ∃ A22 c22 lo22 hi22, v = .slice A22 ((i_Table_entriesIn p_t p_name p_store).length) c22 ∧ OwnL wq lo22 hi22 9 1 (RF e_Str) A22 ((i_Table_entriesIn p_t p_name p_store).length) c22 (i_Table_entriesIn p_t p_name p_store) ∧ (okL okS) (i_Table_entriesIn p_t p_name p_store) ∧ (lo ≤ lo22 ∧ lo22 ≤ hi22 ∧ hi22 ≤ hi), DetI (.agg #[.string (bs (p_t.Name)), .slice A1 p_t.Cols.length c1, .slice A2 p_t.Idxs.length c2]), DetI (.string (bs (p_name))), DetI (.slice A5 p_store.length c5)]) Tryz.follows rfl rfl rfl rfl rfl rfl (vgetI_stable ⟨StableI.det _, StableI.det _, StableI.det _, (fun _ _ _ _ _ ⟨A22, c22, lo22, hi22, hv, h22, ho23, hr0⟩ e => ⟨A22, c22, lo22, hi22, hv, OwnL.ex good_Str h22 e, ho23, hr0⟩), StableI.det _, StableI.det _, StableI.det _, trivial⟩) ⟨?_, ?_, ?_, ?_, ?_, ?_, ?_, trivial⟩ ?_
 ·exact oI rfl fun h => yl_loadN ty33 rfl (h.old 3 _ rfl rfl) ((Box.ex hB16 h.ex).cells (n := 3) rfl) rfl kI
 ·exact oI rfl fun h => yl_move rfl (h.old 1 _ rfl rfl) kI
 ·exact oI rfl fun h => yl_move rfl (h.old 2 _ rfl rfl) kI
 ·intro L40 w41 hi42
  have hE43 := hi42.ex
  have hE43z := Ex.size hE43
  refine OpR.op' rfl (yl_call en50 rfl (oc (hi42.dt 0 7 rfl rfl rfl) (oc (hi42.dt 1 8 rfl rfl rfl) (oc (hi42.dt 2 9 rfl rfl rfl) oz))) (Cal.mono (c_i_Table_entriesIn p_t p_name p_store (RdS.up (RdS.ex good_Str q18 hE43) good_Str) (RdS.up (RdS.ex good_Idx q19 hE43) good_Idx) (RdS.up (RdS.ex good_Write q20 hE43) good_Write) o3 o4 o6 (by first | omega | assumption | (simp only [wI] at *; omega))) ?_))
  rintro v53 w50 ⟨A51, c51, lo51, hi51, rfl, h51, ho52, hrn55, hE54⟩
  exact ⟨⟨A51, c51, lo51, hi51, rfl, h51, ho52, hrn55⟩, hE54⟩
 ·exact oI rfl fun h => yl_loadN ty33 rfl (h.old 3 _ rfl rfl) ((Box.ex hB16 h.ex).cells (n := 3) rfl) rfl kI
 ·exact oI rfl fun h => yl_move rfl (h.old 1 _ rfl rfl) kI
 ·exact oI rfl fun h => yl_move rfl (h.old 2 _ rfl rfl) kI
 ·intro fl75 fh76 L72 w73 hp74
  have hE77 := hp74.ex
  have hE77z := Ex.size hE77
  have hr79 := hp74.rng 3 rfl
  obtain ⟨_, hx78, A22_80, c22_81, lo22_82, hi22_83, rfl, h84, h85, hrn86⟩ := hp74.new 3 10 rfl rfl
  refine sd rfl (yl_call en49 rfl (oc (hp74.nt 4 11 rfl rfl rfl) (oc (hp74.nt 5 12 rfl rfl rfl) (oc (hp74.nt 6 13 rfl rfl rfl) oz))) (Cal.mono (c_i_Table_keysIn p_t p_name p_store (RdS.up (RdS.ex good_Str q18 hE77) good_Str) (RdS.up (RdS.ex good_Idx q19 hE77) good_Idx) (RdS.up (RdS.ex good_Write q20 hE77) good_Write) o3 o4 o6 pre0) ?_))
  rintro v96 w93 ⟨A94, c94, lo94, hi94, rfl, h94, ho95, hrn98, hE97⟩
  have hE97z := Ex.size hE97
  refine sd rfl (yl_call en48 rfl (oc hx78 (oc rfl oz)) (Cal.mono (c_i_without (i_Table_entriesIn p_t p_name p_store) (i_Table_keysIn p_t p_name p_store) (RdS.up (OwnL.rd good_Str (OwnL.ex good_Str h84 hE97)) good_Str) (RdS.up (OwnL.rd good_Str h94) good_Str) h85 ho95) ?_))
  rintro v105 w102 ⟨A103, c103, lo103, hi103, rfl, h103, ho104, hrn107, hE106⟩
  have hE106z := Ex.size hE106
  refine sd rfl (yl_assign rfl rfl (dn (CW.sub (Sub.cons (d := 6) rfl (Sub.nil _)) (CW.ret (rr rfl (.cons rfl .nil) ?_)))))
  have hM108 : (i_Table_orphansIn p_t p_name p_store) = ((i_without (i_Table_entriesIn p_t p_name p_store) (i_Table_keysIn p_t p_name p_store))) := by simp only [i_Table_orphansIn, cL]
  rw [hM108]
  exact ⟨A103, c103, lo103, hi103, rfl, h103, ho104, (by omega), (Ex.trans (Ex.trans (Ex.trans (Ex.trans (Ex.refl w) hE17) hE77) hE97) hE106)⟩
theorem c_i_OrphansIn {A1 : Option Addr} {c1 : Nat} {A2 : Option Addr} {c2 : Nat} {A5 : Option Addr} {c5 : Nat} {w : World} (p_t : DTable) (p_name : Str) (p_store : List DWrite) (h1 : RdS w (Iv 0 w.heap.size) (RF e_Str) 1 A1 p_t.Cols.length c1 p_t.Cols) (h2 : RdS w (Iv 0 w.heap.size) (RF e_Idx) 3 A2 p_t.Idxs.length c2 p_t.Idxs) (h5 : RdS w (Iv 0 w.heap.size) (RF e_Write) 3 A5 p_store.length c5 p_store) (o3 : ok_Table p_t) (o4 : okS p_name) (o6 : (okL ok_Write) p_store) : Cal Tryz.prog 19 #[.agg #[.string (bs (p_t.Name)), .slice A1 p_t.Cols.length c1, .slice A2 p_t.Idxs.length c2], .string (bs (p_name)), .slice A5 p_store.length c5] w fun v w' => ∃ A_1 c_1 lo_1 hi_1, v = .tuple #[.slice A_1 (((i_OrphansIn p_t p_name p_store).1).length) c_1, .bool ((i_OrphansIn p_t p_name p_store).2)] ∧ OwnL w' lo_1 hi_1 9 1 (RF e_Str) A_1 (((i_OrphansIn p_t p_name p_store).1).length) c_1 ((i_OrphansIn p_t p_name p_store).1) ∧ (okL okS) ((i_OrphansIn p_t p_name p_store).1) ∧ (w.heap.size ≤ lo_1 ∧ lo_1 ≤ hi_1 ∧ hi_1 ≤ w'.heap.size) ∧ Ex w w' := by
 have hol7 : p_t.Name.length ≤ 1073741824 := o3.1
 have hol8 := o3.2.1.1
 have hol9 := o3.2.2.1
 have hol10 : p_name.length ≤ 1073741824 := o4
 have hol11 := o6.1
 refine Cal.of func19 rfl ntmps19 rfl (CW.seq (CW.region (sd rfl (yl_box rfl rfl rfl ?_))))
 intro b12 w13 hs14 hz15 hB16 hE17
 refine sd rfl (yl_assign rfl rfl (sd rfl (yl_assign rfl rfl (dn (CW.seq (CW.seq (CW.region (sd rfl (yl_loadN ty33 rfl rfl (hB16.cells (n := 3) rfl) rfl (sd rfl (yl_move rfl rfl ?_)))))))))))
 refine sd rfl (yl_move rfl rfl ?_)
 have q18 := RdS.ex good_Str h1 hE17
 have q19 := RdS.ex good_Idx h2 hE17
 have q20 := RdS.ex good_Write h5 hE17
 refine sd rfl (yl_call en30 rfl (oc rfl (oc rfl (oc rfl oz))) (Cal.mono (c_i_isIdxStore p_t p_name p_store (RdS.up q18 good_Str) (RdS.up q19 good_Idx) (RdS.up q20 good_Write) o3 o4 o6) ?_))
 rintro v22 w21 ⟨rfl, hE23⟩
 have hE23z := Ex.size hE23
 refine sd rfl (yl_not rfl rfl (dn (bcase (i_isIdxStore p_t p_name p_store) (fun hb24 => ?_) (fun hb24 => ?_))))
 ·have hb24p := f_isIdxStore hb24
  refine CW.cond_f rfl (not_t hb24) (CW.skip (tn (CW.seq (CW.region (sd rfl (yl_loadN ty33 rfl rfl ((Box.ex hB16 hE23).cells (n := 3) rfl) rfl (sd rfl (yl_move rfl rfl (sd rfl (yl_move rfl rfl (sd rfl (yl_call en36 rfl (oc rfl (oc rfl (oc rfl oz))) (Cal.mono (c_i_Table_orphansIn p_t p_name p_store (RdS.up (RdS.ex good_Str q18 hE23) good_Str) (RdS.up (RdS.ex good_Idx q19 hE23) good_Idx) (RdS.up (RdS.ex good_Write q20 hE23) good_Write) o3 o4 o6 (isIdxStore_has hb24)) ?_)))))))))))))
  rintro v32 w29 ⟨A30, c30, lo30, hi30, rfl, h30, ho31, hrn34, hE33⟩
  have hE33z := Ex.size hE33
  refine sd rfl (yl_assign rfl rfl (sd rfl (yl_assign rfl rfl (dn (CW.ret (rr rfl (.cons rfl (.cons rfl .nil)) ?_))))))
  have hM35 : (i_OrphansIn p_t p_name p_store) = (((i_Table_orphansIn p_t p_name p_store), true)) := by simp only [i_OrphansIn, hb24, cL]
  rw [hM35]
  exact ⟨A30, c30, lo30, hi30, rfl, h30, ho31, (by omega), (Ex.trans (Ex.trans (Ex.trans (Ex.refl w) hE17) hE23) hE33)⟩
 ·refine CW.cond_t rfl (not_f hb24) (CW.seq (CW.region (sd rfl (yl_assign rfl rfl (sd rfl (yl_assign rfl rfl (dn (CW.ret (tr ?_)))))))))
  refine rr rfl (.cons rfl (.cons rfl .nil)) ?_
  have hM39 : (i_OrphansIn p_t p_name p_store) = ((([] : List Str), false)) := by simp only [i_OrphansIn, hb24, cL]
  rw [hM39]
  exact ⟨none, 0, w21.heap.size, w21.heap.size, rfl, (OwnL.nil _ _ _ _ _ _), (okL.nil _), (by omega), (Ex.trans (Ex.trans (Ex.refl w) hE17) hE23)⟩
theorem c_l_FnExactOrphansIn {A1 : Option Addr} {c1 : Nat} {A2 : Option Addr} {c2 : Nat} {A3 : Option Addr} {c3 : Nat} {w : World} (p_0 : DTable) (p_1 : Str) (p_2 : List DWrite) (h1 : RdS w (Iv 0 w.heap.size) (RF e_Str) 1 A1 p_0.Cols.length c1 p_0.Cols) (h2 : RdS w (Iv 0 w.heap.size) (RF e_Idx) 3 A2 p_0.Idxs.length c2 p_0.Idxs) (h3 : RdS w (Iv 0 w.heap.size) (RF e_Write) 3 A3 p_2.length c3 p_2) (pre0 : wf_Table p_0) (pre1 : wfS p_1) (pre2 : (wfL wf_Write) p_2) : Cal Tryz.prog 4 #[.agg #[.string (bs (p_0.Name)), .slice A1 p_0.Cols.length c1, .slice A2 p_0.Idxs.length c2], .string (bs (p_1)), .slice A3 p_2.length c3] w fun v w' => v = .bool ((l_FnExactOrphansIn p_0 p_1 p_2)) ∧ Ex w w' := by
 refine Cal.of func4 rfl ntmps4 rfl (CW.seq (CW.region (sd rfl (yl_box rfl rfl rfl ?_))))
 intro b4 w5 hs6 hz7 hB8 hE9
 refine sd rfl (yl_assign rfl rfl (dn (CW.seq (CW.seq (CW.region (sd rfl (yl_move rfl rfl (sd rfl (yl_slen un9 (a := p_1) rfl rfl (sd rfl (yl_gtr rfl rfl rfl ?_)))))))))))
 refine dn (bcase (decide (1048576 < (p_1.length : Int))) (fun hb10 => ?_) (fun hb10 => ?_))
 ·have hb10p := dec_t hb10
  refine CW.cond_t rfl hb10 (CW.seq (CW.region (sd rfl (yl_assign rfl rfl (dn (CW.ret (tr (rr rfl (.cons rfl .nil) ?_))))))))
  have hM11 : (l_FnExactOrphansIn p_0 p_1 p_2) = (true) := by simp only [l_FnExactOrphansIn, hb10, cL]
  rw [hM11]
  exact ⟨rfl, (Ex.trans (Ex.refl w) hE9)⟩
 ·have hb10p := dec_f hb10
  refine CW.cond_f rfl hb10 (CW.skip (tn (CW.seq (CW.region (sd rfl (yl_assign rfl rfl (dn (CW.seq ?_))))))))
  refine CW.region (sd rfl (yl_loadN ty25 rfl rfl (hB8.cells (n := 3) rfl) rfl (sd rfl (yl_move rfl rfl ?_))))
  have q13 := RdS.ex good_Str h1 hE9
  have q14 := RdS.ex good_Idx h2 hE9
  refine sd rfl (yl_call en5 rfl (oc rfl (oc rfl oz)) (Cal.mono (c_l_szTable p_0 1048576 (RdS.up q13 good_Str) (RdS.up q14 good_Idx)) ?_))
  rintro v16 w15 ⟨rfl, hE17⟩
  have hE17z := Ex.size hE17
  refine sd rfl (yl_assign rfl rfl (dn (CW.seq (CW.seq (CW.region (sd rfl (yl_move rfl rfl (sd rfl (yl_lss rfl rfl rfl (SeqR.done ?_))))))))))
  refine tn (bcase (decide ((l_szTable p_0 1048576) < 0)) (fun hb18 => ?_) (fun hb18 => ?_))
  ·have hb18p := dec_t hb18
   refine CW.cond_t rfl hb18 (CW.seq (CW.region (sd rfl (yl_assign rfl rfl (dn (CW.ret (tr (rr rfl (.cons rfl .nil) ?_))))))))
   have hM19 : (l_FnExactOrphansIn p_0 p_1 p_2) = (true) := by simp only [l_FnExactOrphansIn, hb10, hb18, cL]
   rw [hM19]
   exact ⟨rfl, (Ex.trans (Ex.trans (Ex.refl w) hE9) hE17)⟩
  ·have hb18p := dec_f hb18
   refine CW.cond_f rfl hb18 (CW.skip (tn (CW.seq (CW.region (sd rfl (yl_move rfl rfl (sd rfl (yl_move rfl rfl ?_))))))))
   have q23 := RdS.ex good_Write (RdS.ex good_Write h3 hE9) hE17
   refine sd rfl (yl_call en6 rfl (oc rfl (oc rfl oz)) (Cal.mono (c_l_szWriteS p_2 (l_szTable p_0 1048576) (RdS.up q23 good_Write)) ?_))
   rintro v25 w24 ⟨rfl, hE26⟩
   have hE26z := Ex.size hE26
   refine sd rfl (yl_assign rfl rfl (dn (CW.seq (CW.seq (CW.region (sd rfl (yl_move rfl rfl (sd rfl (yl_lss rfl rfl rfl (SeqR.done ?_))))))))))
   refine tn (bcase (decide ((l_szWriteS p_2 (l_szTable p_0 1048576)) < 0)) (fun hb27 => ?_) (fun hb27 => ?_))
   ·have hb27p := dec_t hb27
    refine CW.cond_t rfl hb27 (CW.seq (CW.region (sd rfl (yl_assign rfl rfl (dn (CW.ret (tr (rr rfl (.cons rfl .nil) ?_))))))))
    have hM28 : (l_FnExactOrphansIn p_0 p_1 p_2) = (true) := by simp only [l_FnExactOrphansIn, hb10, hb18, hb27, cL]
    rw [hM28]
    exact ⟨rfl, (Ex.trans (Ex.trans (Ex.trans (Ex.refl w) hE9) hE17) hE26)⟩
   ·have hb27p := dec_f hb27
    refine CW.cond_f rfl hb27 (CW.skip (tn (CW.seq (CW.region ?_))))
    have q33 := Box.ex (Box.ex hB8 hE17) hE26
    refine sd rfl (yl_loadN ty25 rfl rfl (q33.cells (n := 3) rfl) rfl ?_)
    have q35 := RdS.ex good_Str (RdS.ex good_Str q13 hE17) hE26
    have q37 := RdS.ex good_Idx (RdS.ex good_Idx q14 hE17) hE26
    refine sd rfl (yl_call en8 rfl (oc rfl oz) (Cal.mono (c_l_toTable p_0 (RdS.up q35 good_Str) (RdS.up q37 good_Idx) ((szok_Table pre0 (by decide) (dec_f hb18)).1)) ?_))
    rintro v41 w38 ⟨A39, c39, lo39, hi39, A40, c40, lo40, hi40, rfl, h39, h40, hrn43, hrn44, hrn45, hE42⟩
    have hE42z := Ex.size hE42
    refine sd rfl (yl_move rfl rfl (sd rfl (yl_move rfl rfl ?_)))
    have q47 := RdS.ex good_Write (RdS.ex good_Write q23 hE26) hE42
    refine sd rfl (yl_call en9 rfl (oc rfl oz) (Cal.mono (c_l_toWriteS p_2 (RdS.up q47 good_Write) ((szok_WriteS pre2 (szok_Table pre0 (by decide) (dec_f hb18)).2 (dec_f hb27)).1)) ?_))
    rintro v50 w48 ⟨A49, c49, lo49, hi49, rfl, h49, hrn52, hE51⟩
    have hE51z := Ex.size hE51
    refine sd rfl (yl_call en18 rfl (oc rfl (oc rfl (oc rfl oz))) (Cal.mono (c_s_OrphansIn p_0 p_1 p_2 (RdS.up (OwnL.rd good_Str (OwnL.ex good_Str h39 hE51)) good_Str) (RdS.up (OwnL.rd good_Idx (OwnL.ex good_Idx h40 hE51)) good_Idx) (RdS.up (OwnL.rd good_Write h49) good_Write) ((szok_Table pre0 (by decide) (dec_f hb18)).1) (by unfold okS; omega) ((szok_WriteS pre2 (szok_Table pre0 (by decide) (dec_f hb18)).2 (dec_f hb27)).1)) ?_))
    rintro v61 w58 ⟨A59, c59, lo59, hi59, rfl, h59, ho60, hrn63, hE62⟩
    have hE62z := Ex.size hE62
    refine sd rfl (yl_move rfl rfl (sd rfl (yl_extract rfl rfl rfl (sd rfl (yl_extract rfl rfl rfl (sd rfl (yl_assign rfl rfl (sd rfl (yl_assign rfl rfl (dn (CW.seq (CW.region ?_))))))))))))
    have q66 := Box.ex (Box.ex (Box.ex q33 hE42) hE51) hE62
    refine sd rfl (yl_loadN ty25 rfl rfl (q66.cells (n := 3) rfl) rfl ?_)
    have q69 := RdS.ex good_Str (RdS.ex good_Str (RdS.ex good_Str q35 hE42) hE51) hE62
    have q72 := RdS.ex good_Idx (RdS.ex good_Idx (RdS.ex good_Idx q37 hE42) hE51) hE62
    refine sd rfl (yl_call en8 rfl (oc rfl oz) (Cal.mono (c_l_toTable p_0 (RdS.up q69 good_Str) (RdS.up q72 good_Idx) ((szok_Table pre0 (by decide) (dec_f hb18)).1)) ?_))
    rintro v76 w73 ⟨A74, c74, lo74, hi74, A75, c75, lo75, hi75, rfl, h74, h75, hrn78, hrn79, hrn80, hE77⟩
    have hE77z := Ex.size hE77
    refine sd rfl (yl_alloc ty33 (cs := [.string (bs (([] : Str))), .slice none 0 0, .slice none 0 0]) rfl rfl ?_)
    intro b81 w82 hs83 hz84 hB85 hE86
    refine SeqR.u rfl rfl (yl_store (vs := [.string (bs (p_0.Name)), .slice A74 p_0.Cols.length c74, .slice A75 p_0.Idxs.length c75]) ty33 rfl rfl rfl rfl rfl rfl hB85 (Nat.le_of_ble_eq_true rfl) ?_)
    intro w87 hB88 hO89
    have hB88 : Box w87 b81 33 [.string (bs (p_0.Name)), .slice A74 p_0.Cols.length c74, .slice A75 p_0.Idxs.length c75] := hB88
    have hO89z := hO89.size
    refine dn (CW.seq (CW.region (sd rfl (yl_move rfl rfl ?_))))
    have q94 := RdS.only good_Write (RdS.ex good_Write (RdS.ex good_Write (RdS.ex good_Write (RdS.ex good_Write q47 hE51) hE62) hE77) hE86) hO89 (by simp only [Iv]; omega)
    refine sd rfl (yl_call en9 rfl (oc rfl oz) (Cal.mono (c_l_toWriteS p_2 (RdS.up q94 good_Write) ((szok_WriteS pre2 (szok_Table pre0 (by decide) (dec_f hb18)).2 (dec_f hb27)).1)) ?_))
    rintro v97 w95 ⟨A96, c96, lo96, hi96, rfl, h96, hrn99, hE98⟩
    have hE98z := Ex.size hE98
    refine sd rfl (yl_assign rfl rfl (dn (CW.seq (CW.region ?_))))
    have q100 := Box.ex hB88 hE98
    refine sd rfl (yl_loadN ty33 rfl rfl (q100.cells (n := 3) rfl) rfl (sd rfl (yl_move rfl rfl (sd rfl (yl_move rfl rfl ?_)))))
    have q104 := OwnL.ex good_Str (OwnL.only good_Str (OwnL.ex good_Str h74 hE86) hO89 (by omega)) hE98
    have q108 := OwnL.ex good_Idx (OwnL.only good_Idx (OwnL.ex good_Idx h75 hE86) hO89 (by omega)) hE98
    refine sd rfl (yl_call en19 rfl (oc rfl (oc rfl (oc rfl oz))) (Cal.mono (c_i_OrphansIn p_0 p_1 p_2 (RdS.up (OwnL.rd good_Str q104) good_Str) (RdS.up (OwnL.rd good_Idx q108) good_Idx) (RdS.up (OwnL.rd good_Write h96) good_Write) ((szok_Table pre0 (by decide) (dec_f hb18)).1) (by unfold okS; omega) ((szok_WriteS pre2 (szok_Table pre0 (by decide) (dec_f hb18)).2 (dec_f hb27)).1)) ?_))
    rintro v113 w110 ⟨A111, c111, lo111, hi111, rfl, h111, ho112, hrn115, hE114⟩
    have hE114z := Ex.size hE114
    refine sd rfl (yl_move rfl rfl (sd rfl (yl_extract rfl rfl rfl (sd rfl (yl_extract rfl rfl rfl (sd rfl (yl_assign rfl rfl (sd rfl (yl_assign rfl rfl (dn (CW.seq (CW.seq ?_))))))))))))
    refine CW.region (sd rfl (yl_move rfl rfl (sd rfl (yl_move rfl rfl ?_))))
    have q122 := OwnL.ex good_Str (OwnL.ex good_Str (OwnL.only good_Str (OwnL.ex good_Str (OwnL.ex good_Str h59 hE77) hE86) hO89 (by omega)) hE98) hE114
    refine sd rfl (yl_call en11 rfl (oc rfl (oc rfl oz)) (Cal.mono (c_l_eqStringS ((i_OrphansIn p_0 p_1 p_2).1) ((s_OrphansIn p_0 p_1 p_2).1) (RdS.up (OwnL.rd good_Str h111) good_Str) (RdS.up (OwnL.rd good_Str q122) good_Str)) ?_))
    rintro v124 w123 ⟨rfl, hE125⟩
    have hE125z := Ex.size hE125
    refine sd rfl (yl_not rfl rfl (sd rfl (yl_move rfl rfl (bcase (l_eqStringS ((i_OrphansIn p_0 p_1 p_2).1) ((s_OrphansIn p_0 p_1 p_2).1)) (fun hb126 => ?_) (fun hb126 => ?_)))))
    ·refine sy rfl rfl (not_t hb126) (yl_move rfl rfl (sy rfl rfl (not_t hb126) (yl_move rfl rfl (sy rfl rfl (not_t hb126) (yl_bneq un4 rfl rfl rfl (sd rfl (yl_pick_f rfl rfl (not_t hb126) rfl (dn (bcase (((i_OrphansIn p_0 p_1 p_2).2) == ((s_OrphansIn p_0 p_1 p_2).2)) (fun hb127 => ?_) (fun hb127 => ?_))))))))))
     ·refine CW.cond_f rfl (not_t hb127) (CW.skip (tn (CW.seq (CW.seq ?_))))
      have q129 := Box.ex (Box.ex q100 hE114) hE125
      have q135 := Box.ex (Box.ex (Box.ex (Box.only (Box.ex (Box.ex q66 hE77) hE86) hO89 (by omega)) hE98) hE114) hE125
      have q141 := RdS.ex good_Str (RdS.ex good_Str (RdS.ex good_Str (RdS.only good_Str (RdS.ex good_Str (RdS.ex good_Str q69 hE77) hE86) hO89 (by simp only [Iv]; omega)) hE98) hE114) hE125
      have q147 := RdS.ex good_Idx (RdS.ex good_Idx (RdS.ex good_Idx (RdS.only good_Idx (RdS.ex good_Idx (RdS.ex good_Idx q72 hE77) hE86) hO89 (by simp only [Iv]; omega)) hE98) hE114) hE125
      have q153 := OwnL.ex good_Str (OwnL.ex good_Str q104 hE114) hE125
      have q156 := OwnL.ex good_Idx (OwnL.ex good_Idx q108 hE114) hE125
      refine CW.drawsI 5 (vgetI [DetI (.agg #[.string (bs (p_0.Name)), .slice A74 p_0.Cols.length c74, .slice A75 p_0.Idxs.length c75]), DetI (.agg #[.string (bs (p_0.Name)), .slice A1 p_0.Cols.length c1, .slice A2 p_0.Idxs.length c2]), fun lo hi v wq => ∃ A149 c149 lo149 hi149 A150 c150 lo150 hi150, v = .agg #[.string (bs (p_0.Name)), .slice A149 p_0.Cols.length c149, .slice A150 p_0.Idxs.length c150] ∧ OwnL wq lo149 hi149 9 1 (RF e_Str) A149 p_0.Cols.length c149 p_0.Cols ∧ OwnL wq lo150 hi150 72 3 (RF e_Idx) A150 p_0.Idxs.length c150 p_0.Idxs ∧ (lo ≤ lo149 ∧ lo149 ≤ hi149 ∧ hi149 ≤ hi) ∧ (lo ≤ lo150 ∧ lo150 ≤ hi150 ∧ hi150 ≤ hi) ∧ (hi149 ≤ lo150 ∨ hi150 ≤ lo149), DetI (.bool ((l_eqTable p_0 p_0))), DetI (.bool (!(l_eqTable p_0 p_0)))]) Tryz.follows rfl rfl rfl rfl rfl rfl (vgetI_stable ⟨StableI.det _, StableI.det _, (fun _ _ _ _ _ ⟨A149, c149, lo149, hi149, A150, c150, lo150, hi150, hv, h149, h150, hr0, hr1, hr2⟩ e => ⟨A149, c149, lo149, hi149, A150, c150, lo150, hi150, hv, OwnL.ex good_Str h149 e, OwnL.ex good_Idx h150 e, hr0, hr1, hr2⟩), StableI.det _, StableI.det _, trivial⟩) ⟨?_, ?_, ?_, ?_, ?_, trivial⟩ ?_
      ·exact oI rfl fun h => yl_loadN ty33 rfl (h.old 10 _ rfl rfl) ((Box.ex q129 h.ex).cells (n := 3) rfl) rfl kI
      ·exact oI rfl fun h => yl_loadN ty25 rfl (h.old 3 _ rfl rfl) ((Box.ex q135 h.ex).cells (n := 3) rfl) rfl kI
      ·intro L170 w171 hi172
       have hE173 := hi172.ex
       refine OpR.op' rfl (yl_call en8 rfl (oc (hi172.dt 1 62 rfl rfl rfl) oz) (Cal.mono (c_l_toTable p_0 (RdS.up (RdS.ex good_Str q141 hE173) good_Str) (RdS.up (RdS.ex good_Idx q147 hE173) good_Idx) ((szok_Table pre0 (by decide) (dec_f hb18)).1)) ?_))
       rintro v180 w177 ⟨A178, c178, lo178, hi178, A179, c179, lo179, hi179, rfl, h178, h179, hrn182, hrn183, hrn184, hE181⟩
       exact ⟨⟨A178, c178, lo178, hi178, A179, c179, lo179, hi179, rfl, h178, h179, hrn182, hrn183, hrn184⟩, hE181⟩
      ·intro L185 w186 hi187
       have hE188 := hi187.ex
       obtain ⟨lo191, hh192, _, hx190, hr193, hr194, hr195, A149_196, c149_197, lo149_198, hi149_199, A150_200, c150_201, lo150_202, hi150_203, rfl, h204, h205, hrn206, hrn207, hrn208⟩ := hi187.dep 2 63 rfl rfl
       exact OpR.op' rfl (yl_call en12 rfl (oc (hi187.dt 0 61 rfl rfl rfl) (oc hx190 oz)) (Cal.mono (c_l_eqTable p_0 p_0 (RdS.up (OwnL.rd good_Str (OwnL.ex good_Str q153 hE188)) good_Str) (RdS.up (OwnL.rd good_Idx (OwnL.ex good_Idx q156 hE188)) good_Idx) (RdS.up (OwnL.rd good_Str h204) good_Str) (RdS.up (OwnL.rd good_Idx h205) good_Idx)) fun _ _ h => h))
      ·exact oI rfl fun h => yl_not rfl (h.dt 3 64 rfl rfl rfl) kI
      ·intro fl226 fh227 L223 w224 hp225
       have hE228 := hp225.ex
       have hE228z := Ex.size hE228
       have hr239 := hp225.rng 2 rfl
       obtain ⟨_, hx238, A149_240, c149_241, lo149_242, hi149_243, A150_244, c150_245, lo150_246, hi150_247, rfl, h248, h249, hrn250, hrn251, hrn252⟩ := hp225.new 2 63 rfl rfl
       refine dn (CW.sub (Sub.cons (d := 1) (hp225.old 1 _ rfl rfl) (Sub.cons (d := 2) (hp225.old 2 _ rfl rfl) (Sub.cons (d := 3) (hp225.old 3 _ rfl rfl) (Sub.cons (d := 8) (hp225.old 8 _ rfl rfl) (Sub.cons (d := 9) (hp225.old 9 _ rfl rfl) (Sub.cons (d := 10) (hp225.old 10 _ rfl rfl) (Sub.cons (d := 11) (hp225.old 11 _ rfl rfl) (Sub.cons (d := 12) (hp225.old 12 _ rfl rfl) (Sub.cons (d := 13) (hp225.old 13 _ rfl rfl) (Sub.cons (d := 65) (hp225.nt 4 65 rfl rfl rfl) (Sub.nil _))))))))))) (bcase (l_eqTable p_0 p_0) (fun hb254 => ?_) (fun hb254 => ?_)))
       ·refine CW.cond_f rfl (not_t hb254) (CW.skip (tn (CW.seq (CW.seq (CW.region (sd rfl (yl_move rfl rfl (sd rfl (yl_move rfl rfl ?_)))))))))
        have q258 := RdS.ex good_Write (RdS.ex good_Write (RdS.ex good_Write (RdS.ex good_Write q94 hE98) hE114) hE125) hE228
        refine sd rfl (yl_call en9 rfl (oc rfl oz) (Cal.mono (c_l_toWriteS p_2 (RdS.up q258 good_Write) ((szok_WriteS pre2 (szok_Table pre0 (by decide) (dec_f hb18)).2 (dec_f hb27)).1)) ?_))
        rintro v261 w259 ⟨A260, c260, lo260, hi260, rfl, h260, hrn263, hE262⟩
        have hE262z := Ex.size hE262
        have q268 := OwnL.ex good_Write (OwnL.ex good_Write (OwnL.ex good_Write (OwnL.ex good_Write h96 hE114) hE125) hE228) hE262
        refine sd rfl (yl_call en13 rfl (oc rfl (oc rfl oz)) (Cal.mono (c_l_eqWriteS p_2 p_2 (RdS.up (OwnL.rd good_Write q268) good_Write) (RdS.up (OwnL.rd good_Write h260) good_Write)) ?_))
        rintro v271 w270 ⟨rfl, hE272⟩
        have hE272z := Ex.size hE272
        refine sd rfl (yl_not rfl rfl (dn (bcase (l_eqWriteS p_2 p_2) (fun hb273 => ?_) (fun hb273 => ?_))))
        ·refine CW.cond_f rfl (not_t hb273) (CW.skip (tn (CW.seq (CW.region (sd rfl (yl_assign rfl rfl (dn (CW.seq ?_))))))))
         refine CW.region (sd rfl (yl_loadN ty33 rfl rfl ((Box.ex (Box.ex (Box.ex q129 hE228) hE262) hE272).cells (n := 3) rfl) rfl (sd rfl (yl_move rfl rfl (sd rfl (yl_call en14 rfl (oc rfl (oc rfl oz)) (Cal.mono (c_l_markTable p_0 1 (OwnL.ex good_Str (OwnL.ex good_Str (OwnL.ex good_Str q153 hE228) hE262) hE272) (OwnL.ex good_Idx (OwnL.ex good_Idx (OwnL.ex good_Idx q156 hE228) hE262) hE272) (by omega) (by omega) (by omega) (by first | omega | assumption | (simp only [wI] at *; omega))) ?_)))))))
         rintro v284 w283 ⟨rfl, h286, h287, hm285⟩
         have hm285z := Mut.size hm285
         have hrf288 := rf_markTable p_0 1 (by first | omega | assumption | (simp only [wI] at *; omega))
         refine sd rfl (yl_assign rfl rfl (dn (CW.seq (CW.region (sd rfl (yl_move rfl rfl (sd rfl (yl_move rfl rfl (sd rfl (yl_call en15 rfl (oc rfl (oc rfl oz)) (Cal.mono (c_l_markWriteS p_2 ((l_markTable p_0 1).1) (OwnL.mut good_Write (OwnL.ex good_Write q268 hE272) hm285 (fun k hk => by simp only [InR, or_false] at hk; omega)) (by omega) (by first | omega | assumption | (simp only [wI] at *; omega))) ?_)))))))))))
         rintro v292 w291 ⟨rfl, h294, hm293⟩
         have hm293z := Mut.size hm293
         have hrf295 := rf_markWriteS p_2 ((l_markTable p_0 1).1) (by first | omega | assumption | (simp only [wI] at *; omega))
         refine sd rfl (yl_assign rfl rfl (dn (CW.seq (CW.seq (CW.region (sd rfl (yl_move rfl rfl (sd rfl (yl_lss rfl rfl rfl (sd rfl (yl_move rfl rfl ?_)))))))))))
         refine bcase (decide (((l_markWriteS p_2 ((l_markTable p_0 1).1)).1) < 0)) (fun hb296 => ?_) (fun hb296 => ?_)
         ·have hb296p := dec_t hb296
          refine sz rfl rfl hb296 (sz rfl rfl hb296 (sz rfl rfl hb296 (sz rfl rfl hb296 (sd rfl (yl_pick_t rfl rfl hb296 rfl (sd rfl (yl_move rfl rfl (sz rfl rfl rfl (sz rfl rfl rfl (sz rfl rfl rfl ?_))))))))))
          refine sd rfl (yl_pick_t rfl rfl rfl rfl (dn (CW.cond_t rfl rfl (CW.seq (CW.region (sd rfl (yl_assign rfl rfl (dn ?_))))))))
          refine CW.ret (tr (rr rfl (.cons rfl .nil) ?_))
          have hM297 : (l_FnExactOrphansIn p_0 p_1 p_2) = (false) := by simp only [l_FnExactOrphansIn, hb10, hb18, hb27, hb126, hb127, hb254, hb273, hb296, cL]
          rw [hM297]
          have q314 := Ex.mut (Ex.mut (Ex.trans (Ex.trans (Ex.trans (Ex.trans (Ex.trans (Ex.trans (Below.only (Ex.trans (Ex.trans (Ex.trans (Ex.trans (Ex.trans (Ex.trans (Ex.trans (Ex.trans (Ex.refl w) hE9) hE17) hE26) hE42) hE51) hE62) hE77) hE86) hO89 (by omega)) hE98) hE114) hE125) hE228) hE262) hE272) hm285 (fun k hk => by simp only [InR, or_false] at hk; omega)) hm293 (fun k hk => by simp only [InR, or_false] at hk; omega)
          exact ⟨rfl, q314⟩
         ·have hb296p := dec_f hb296
          refine sy rfl rfl hb296 (yl_move rfl rfl (sy rfl rfl hb296 (yl_move rfl rfl ?_)))
          have q321 := OwnL.mut good_Str (OwnL.mut good_Str (OwnL.ex good_Str (OwnL.ex good_Str (OwnL.ex good_Str (OwnL.ex good_Str h111 hE125) hE228) hE262) hE272) hm285 (fun k hk => by simp only [InR, or_false] at hk; omega)) hm293 (fun k hk => by simp only [InR, or_false] at hk; omega)
          have q328 := OwnL.mut good_Str (OwnL.mut good_Str (OwnL.ex good_Str (OwnL.ex good_Str (OwnL.ex good_Str (OwnL.ex good_Str q122 hE125) hE228) hE262) hE272) hm285 (fun k hk => by simp only [InR, or_false] at hk; omega)) hm293 (fun k hk => by simp only [InR, or_false] at hk; omega)
          refine sy rfl rfl hb296 (yl_call en11 rfl (oc rfl (oc rfl oz)) (Cal.mono (c_l_eqStringS ((i_OrphansIn p_0 p_1 p_2).1) ((s_OrphansIn p_0 p_1 p_2).1) (RdS.up (OwnL.rd good_Str q321) good_Str) (RdS.up (OwnL.rd good_Str q328) good_Str)) ?_))
          rintro v330 w329 ⟨rfl, hE331⟩
          have hE331z := Ex.size hE331
          refine sy rfl rfl hb296 (yl_not rfl rfl (sd rfl (yl_pick_f rfl rfl hb296 rfl (sd rfl (yl_move rfl rfl (sy rfl rfl (not_t hb126) (yl_move rfl rfl (sy rfl rfl (not_t hb126) (yl_move rfl rfl (sy rfl rfl (not_t hb126) (yl_bneq un4 rfl rfl rfl (sd rfl (yl_pick_f rfl rfl (not_t hb126) rfl (dn ?_))))))))))))))
          refine CW.cond_f rfl (not_t hb127) (CW.skip (tn (CW.seq (CW.region (sd rfl (yl_assign rfl rfl (dn (CW.seq ?_))))))))
          refine CW.region (sd rfl (yl_move rfl rfl (sd rfl (yl_move rfl rfl (sd rfl (yl_call en16 rfl (oc rfl (oc rfl oz)) (Cal.mono (c_l_markStringS ((i_OrphansIn p_0 p_1 p_2).1) 1 (OwnL.ex good_Str q321 hE331) (by omega) (by first | omega | assumption | (simp only [wI] at *; omega))) ?_)))))))
          rintro v334 w333 ⟨rfl, h336, hm335⟩
          have hm335z := Mut.size hm335
          have hrf337 := rf_markStringS ((i_OrphansIn p_0 p_1 p_2).1) 1 (by first | omega | assumption | (simp only [wI] at *; omega))
          refine sd rfl (yl_assign rfl rfl (dn (CW.seq (CW.region (sd rfl (yl_assign rfl rfl (dn (CW.seq ?_))))))))
          refine CW.region (sd rfl (yl_move rfl rfl (sd rfl (yl_move rfl rfl ?_))))
          have hle338 := OwnL.len h336
          refine sd rfl (yl_call en17 rfl (oc rfl (oc rfl oz)) (Cal.mono (Cal.args (by rw [← hle338] <;> rfl) (c_l_heldStringS ((l_markStringS ((i_OrphansIn p_0 p_1 p_2).1) 1).2) 1 (RdS.fix (RdS.up (OwnL.rd good_Str h336) good_Str)) (by first | omega | assumption | (simp only [wI] at *; omega)))) ?_))
          rintro v341 w340 ⟨rfl, hE342⟩
          have hE342z := Ex.size hE342
          have hrf343 := rf_heldStringS ((l_markStringS ((i_OrphansIn p_0 p_1 p_2).1) 1).2) 1 (by first | omega | assumption | (simp only [wI] at *; omega))
          refine sd rfl (yl_assign rfl rfl (dn (CW.seq (CW.seq (CW.region (sd rfl (yl_move rfl rfl (sd rfl (yl_lss rfl rfl rfl (SeqR.done ?_))))))))))
          refine tn (bcase (decide ((l_heldStringS ((l_markStringS ((i_OrphansIn p_0 p_1 p_2).1) 1).2) 1) < 0)) (fun hb344 => ?_) (fun hb344 => ?_))
          ·have hb344p := dec_t hb344
           refine CW.cond_t rfl hb344 (CW.seq (CW.region (sd rfl (yl_assign rfl rfl (dn (CW.ret (tr (rr rfl (.cons rfl .nil) ?_))))))))
           have hM345 : (l_FnExactOrphansIn p_0 p_1 p_2) = (false) := by simp only [l_FnExactOrphansIn, hb10, hb18, hb27, hb126, hb127, hb254, hb273, hb296, hb344, cL]
           rw [hM345]
           have q362 := Ex.mut (Ex.mut (Ex.trans (Ex.trans (Ex.trans (Ex.trans (Ex.trans (Ex.trans (Below.only (Ex.trans (Ex.trans (Ex.trans (Ex.trans (Ex.trans (Ex.trans (Ex.trans (Ex.trans (Ex.refl w) hE9) hE17) hE26) hE42) hE51) hE62) hE77) hE86) hO89 (by omega)) hE98) hE114) hE125) hE228) hE262) hE272) hm285 (fun k hk => by simp only [InR, or_false] at hk; omega)) hm293 (fun k hk => by simp only [InR, or_false] at hk; omega)
           exact ⟨rfl, (Ex.trans (Ex.mut (Ex.trans q362 hE331) hm335 (fun k hk => by simp only [InR, or_false] at hk; omega)) hE342)⟩
          ·have hb344p := dec_f hb344
           refine CW.cond_f rfl hb344 (CW.skip (tn (CW.seq (CW.seq (CW.region (sd rfl (yl_move rfl rfl (sd rfl (yl_move rfl rfl (sd rfl (yl_neq rfl rfl rfl ?_)))))))))))
           refine dn (bcase (decide ((l_heldStringS ((l_markStringS ((i_OrphansIn p_0 p_1 p_2).1) 1).2) 1) = ((l_markStringS ((i_OrphansIn p_0 p_1 p_2).1) 1).1))) (fun hb366 => ?_) (fun hb366 => ?_))
           ·have hb366p := dec_t hb366
            refine CW.cond_f rfl (not_t hb366) (CW.skip (tn (CW.seq (CW.region (sd rfl (yl_loadN ty25 rfl rfl ((Box.ex (Box.mut (Box.ex (Box.mut (Box.mut (Box.ex (Box.ex (Box.ex q135 hE228) hE262) hE272) hm285 (fun k hk => by simp only [InR, or_false] at hk; omega)) hm293 (fun k hk => by simp only [InR, or_false] at hk; omega)) hE331) hm335 (fun k hk => by simp only [InR, or_false] at hk; omega)) hE342).cells (n := 3) rfl) rfl (sd rfl (yl_call en8 rfl (oc rfl oz) (Cal.mono (c_l_toTable p_0 (RdS.up (RdS.ex good_Str (RdS.mut good_Str (RdS.ex good_Str (RdS.mut good_Str (RdS.mut good_Str (RdS.ex good_Str (RdS.ex good_Str (RdS.ex good_Str q141 hE228) hE262) hE272) hm285 (fun k hk => by simp only [InR, or_false, Iv, Ge] at hk ⊢; omega)) hm293 (fun k hk => by simp only [InR, or_false, Iv, Ge] at hk ⊢; omega)) hE331) hm335 (fun k hk => by simp only [InR, or_false, Iv, Ge] at hk ⊢; omega)) hE342) good_Str) (RdS.up (RdS.ex good_Idx (RdS.mut good_Idx (RdS.ex good_Idx (RdS.mut good_Idx (RdS.mut good_Idx (RdS.ex good_Idx (RdS.ex good_Idx (RdS.ex good_Idx q147 hE228) hE262) hE272) hm285 (fun k hk => by simp only [InR, or_false, Iv, Ge] at hk ⊢; omega)) hm293 (fun k hk => by simp only [InR, or_false, Iv, Ge] at hk ⊢; omega)) hE331) hm335 (fun k hk => by simp only [InR, or_false, Iv, Ge] at hk ⊢; omega)) hE342) good_Idx) ((szok_Table pre0 (by decide) (dec_f hb18)).1)) ?_)))))))))
            rintro v394 w391 ⟨A392, c392, lo392, hi392, A393, c393, lo393, hi393, rfl, h392, h393, hrn396, hrn397, hrn398, hE395⟩
            have hE395z := Ex.size hE395
            refine sd rfl (yl_move rfl rfl (sd rfl (yl_move rfl rfl ?_)))
            have q406 := RdS.ex good_Write (RdS.ex good_Write (RdS.mut good_Write (RdS.ex good_Write (RdS.mut good_Write (RdS.mut good_Write (RdS.ex good_Write (RdS.ex good_Write q258 hE262) hE272) hm285 (fun k hk => by simp only [InR, or_false, Iv, Ge] at hk ⊢; omega)) hm293 (fun k hk => by simp only [InR, or_false, Iv, Ge] at hk ⊢; omega)) hE331) hm335 (fun k hk => by simp only [InR, or_false, Iv, Ge] at hk ⊢; omega)) hE342) hE395
            refine sd rfl (yl_call en9 rfl (oc rfl oz) (Cal.mono (c_l_toWriteS p_2 (RdS.up q406 good_Write) ((szok_WriteS pre2 (szok_Table pre0 (by decide) (dec_f hb18)).2 (dec_f hb27)).1)) ?_))
            rintro v409 w407 ⟨A408, c408, lo408, hi408, rfl, h408, hrn411, hE410⟩
            have hE410z := Ex.size hE410
            refine sd rfl (yl_call en19 rfl (oc rfl (oc rfl (oc rfl oz))) (Cal.mono (c_i_OrphansIn p_0 p_1 p_2 (RdS.up (OwnL.rd good_Str (OwnL.ex good_Str h392 hE410)) good_Str) (RdS.up (OwnL.rd good_Idx (OwnL.ex good_Idx h393 hE410)) good_Idx) (RdS.up (OwnL.rd good_Write h408) good_Write) ((szok_Table pre0 (by decide) (dec_f hb18)).1) (by unfold okS; omega) ((szok_WriteS pre2 (szok_Table pre0 (by decide) (dec_f hb18)).2 (dec_f hb27)).1)) ?_))
            rintro v420 w417 ⟨A418, c418, lo418, hi418, rfl, h418, ho419, hrn422, hE421⟩
            have hE421z := Ex.size hE421
            refine sd rfl (yl_move rfl rfl (sd rfl (yl_extract rfl rfl rfl (sd rfl (yl_extract rfl rfl rfl (sd rfl (yl_assign rfl rfl (sd rfl (yl_assign rfl rfl (dn (CW.seq (CW.seq ?_))))))))))))
            refine CW.region (sd rfl (yl_move rfl rfl (sd rfl (yl_move rfl rfl (sd rfl (yl_call en11 rfl (oc rfl (oc rfl oz)) (Cal.mono (c_l_eqStringS ((i_OrphansIn p_0 p_1 p_2).1) ((s_OrphansIn p_0 p_1 p_2).1) (RdS.up (OwnL.rd good_Str h418) good_Str) (RdS.up (OwnL.rd good_Str (OwnL.ex good_Str (OwnL.ex good_Str (OwnL.ex good_Str (OwnL.ex good_Str (OwnL.mut good_Str (OwnL.ex good_Str q328 hE331) hm335 (fun k hk => by simp only [InR, or_false] at hk; omega)) hE342) hE395) hE410) hE421)) good_Str)) ?_)))))))
            rintro v432 w431 ⟨rfl, hE433⟩
            have hE433z := Ex.size hE433
            refine sd rfl (yl_not rfl rfl (sd rfl (yl_move rfl rfl (sy rfl rfl (not_t hb126) (yl_move rfl rfl (sy rfl rfl (not_t hb126) (yl_move rfl rfl (sy rfl rfl (not_t hb126) (yl_bneq un4 rfl rfl rfl (sd rfl (yl_pick_f rfl rfl (not_t hb126) rfl (dn (CW.cond_f rfl (not_t hb127) ?_)))))))))))))
            refine CW.skip (tn (CW.seq (CW.region (sd rfl (yl_assign rfl rfl (dn (CW.seq (CW.region ?_))))))))
            refine sd rfl (yl_move rfl rfl (sd rfl (yl_move rfl rfl ?_)))
            have q439 := OwnL.ex good_Str (OwnL.ex good_Str (OwnL.ex good_Str (OwnL.ex good_Str (OwnL.ex good_Str h336 hE342) hE395) hE410) hE421) hE433
            have hle434 := OwnL.len q439
            refine sd rfl (yl_call en17 rfl (oc rfl (oc rfl oz)) (Cal.mono (Cal.args (by rw [← hle434] <;> rfl) (c_l_heldStringS ((l_markStringS ((i_OrphansIn p_0 p_1 p_2).1) 1).2) 1 (RdS.fix (RdS.up (OwnL.rd good_Str q439) good_Str)) (by first | omega | assumption | (simp only [wI] at *; omega)))) ?_))
            rintro v442 w441 ⟨rfl, hE443⟩
            have hE443z := Ex.size hE443
            have hrf444 := rf_heldStringS ((l_markStringS ((i_OrphansIn p_0 p_1 p_2).1) 1).2) 1 (by first | omega | assumption | (simp only [wI] at *; omega))
            refine sd rfl (yl_assign rfl rfl (dn (CW.seq (CW.seq (CW.region (sd rfl (yl_move rfl rfl (sd rfl (yl_lss rfl rfl rfl (SeqR.done ?_))))))))))
            refine tn (CW.cond_f rfl hb344 (CW.skip (tn (CW.seq (CW.seq (CW.region (sd rfl (yl_move rfl rfl (sd rfl (yl_move rfl rfl ?_))))))))))
            refine sd rfl (yl_neq rfl rfl rfl (dn (CW.cond_f rfl (not_t hb366) (CW.skip (tn (CW.seq (CW.region (sd rfl (yl_assign rfl rfl ?_)))))))))
            refine dn (CW.ret (rr rfl (.cons rfl .nil) ?_))
            have hM445 : (l_FnExactOrphansIn p_0 p_1 p_2) = (true) := by simp only [l_FnExactOrphansIn, hb10, hb18, hb27, hb126, hb127, hb254, hb273, hb296, hb344, hb366, cL]
            rw [hM445]
            have q462 := Ex.mut (Ex.mut (Ex.trans (Ex.trans (Ex.trans (Ex.trans (Ex.trans (Ex.trans (Below.only (Ex.trans (Ex.trans (Ex.trans (Ex.trans (Ex.trans (Ex.trans (Ex.trans (Ex.trans (Ex.refl w) hE9) hE17) hE26) hE42) hE51) hE62) hE77) hE86) hO89 (by omega)) hE98) hE114) hE125) hE228) hE262) hE272) hm285 (fun k hk => by simp only [InR, or_false] at hk; omega)) hm293 (fun k hk => by simp only [InR, or_false] at hk; omega)
            exact ⟨rfl, (Ex.trans (Ex.trans (Ex.trans (Ex.trans (Ex.trans (Ex.trans (Ex.mut (Ex.trans q462 hE331) hm335 (fun k hk => by simp only [InR, or_false] at hk; omega)) hE342) hE395) hE410) hE421) hE433) hE443)⟩
           ·have hb366p := dec_f hb366
            refine CW.cond_t rfl (not_f hb366) (CW.seq (CW.region (sd rfl (yl_assign rfl rfl (dn (CW.ret (tr (rr rfl (.cons rfl .nil) ?_))))))))
            have hM471 : (l_FnExactOrphansIn p_0 p_1 p_2) = (false) := by simp only [l_FnExactOrphansIn, hb10, hb18, hb27, hb126, hb127, hb254, hb273, hb296, hb344, hb366, cL]
            rw [hM471]
            have q488 := Ex.mut (Ex.mut (Ex.trans (Ex.trans (Ex.trans (Ex.trans (Ex.trans (Ex.trans (Below.only (Ex.trans (Ex.trans (Ex.trans (Ex.trans (Ex.trans (Ex.trans (Ex.trans (Ex.trans (Ex.refl w) hE9) hE17) hE26) hE42) hE51) hE62) hE77) hE86) hO89 (by omega)) hE98) hE114) hE125) hE228) hE262) hE272) hm285 (fun k hk => by simp only [InR, or_false] at hk; omega)) hm293 (fun k hk => by simp only [InR, or_false] at hk; omega)
            exact ⟨rfl, (Ex.trans (Ex.mut (Ex.trans q488 hE331) hm335 (fun k hk => by simp only [InR, or_false] at hk; omega)) hE342)⟩
        ·refine CW.cond_t rfl (not_f hb273) (CW.seq (CW.region (sd rfl (yl_assign rfl rfl (dn (CW.ret (tr (rr rfl (.cons rfl .nil) ?_))))))))
         have hM492 : (l_FnExactOrphansIn p_0 p_1 p_2) = (false) := by simp only [l_FnExactOrphansIn, hb10, hb18, hb27, hb126, hb127, hb254, hb273, cL]
         rw [hM492]
         exact ⟨rfl, (Ex.trans (Ex.trans (Ex.trans (Ex.trans (Ex.trans (Ex.trans (Below.only (Ex.trans (Ex.trans (Ex.trans (Ex.trans (Ex.trans (Ex.trans (Ex.trans (Ex.trans (Ex.refl w) hE9) hE17) hE26) hE42) hE51) hE62) hE77) hE86) hO89 (by omega)) hE98) hE114) hE125) hE228) hE262) hE272)⟩
       ·refine CW.cond_t rfl (not_f hb254) (CW.seq (CW.region (sd rfl (yl_assign rfl rfl (dn (CW.ret (tr (rr rfl (.cons rfl .nil) ?_))))))))
        have hM508 : (l_FnExactOrphansIn p_0 p_1 p_2) = (false) := by simp only [l_FnExactOrphansIn, hb10, hb18, hb27, hb126, hb127, hb254, cL]
        rw [hM508]
        exact ⟨rfl, (Ex.trans (Ex.trans (Ex.trans (Ex.trans (Below.only (Ex.trans (Ex.trans (Ex.trans (Ex.trans (Ex.trans (Ex.trans (Ex.trans (Ex.trans (Ex.refl w) hE9) hE17) hE26) hE42) hE51) hE62) hE77) hE86) hO89 (by omega)) hE98) hE114) hE125) hE228)⟩
     ·refine CW.cond_t rfl (not_f hb127) (CW.seq (CW.region (sd rfl (yl_assign rfl rfl (dn (CW.ret (tr (rr rfl (.cons rfl .nil) ?_))))))))
      have hM522 : (l_FnExactOrphansIn p_0 p_1 p_2) = (false) := by simp only [l_FnExactOrphansIn, hb10, hb18, hb27, hb126, hb127, cL]
      rw [hM522]
      exact ⟨rfl, (Ex.trans (Ex.trans (Ex.trans (Below.only (Ex.trans (Ex.trans (Ex.trans (Ex.trans (Ex.trans (Ex.trans (Ex.trans (Ex.trans (Ex.refl w) hE9) hE17) hE26) hE42) hE51) hE62) hE77) hE86) hO89 (by omega)) hE98) hE114) hE125)⟩
    ·refine sz rfl rfl (not_f hb126) (sz rfl rfl (not_f hb126) (sz rfl rfl (not_f hb126) (sd rfl (yl_pick_t rfl rfl (not_f hb126) rfl (dn (CW.cond_t rfl rfl (CW.seq (CW.region ?_))))))))
     refine sd rfl (yl_assign rfl rfl (dn (CW.ret (tr (rr rfl (.cons rfl .nil) ?_)))))
     have hM535 : (l_FnExactOrphansIn p_0 p_1 p_2) = (false) := by simp only [l_FnExactOrphansIn, hb10, hb18, hb27, hb126, cL]
     rw [hM535]
     exact ⟨rfl, (Ex.trans (Ex.trans (Ex.trans (Below.only (Ex.trans (Ex.trans (Ex.trans (Ex.trans (Ex.trans (Ex.trans (Ex.trans (Ex.trans (Ex.refl w) hE9) hE17) hE26) hE42) hE51) hE62) hE77) hE86) hO89 (by omega)) hE98) hE114) hE125)⟩
end Go.Proofs.YtfhpejjhhhgooaaGreatDoor
