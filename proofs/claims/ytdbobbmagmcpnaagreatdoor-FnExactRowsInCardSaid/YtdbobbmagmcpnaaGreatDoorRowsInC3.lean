/- Rows In: what each call returns, part 3. -/
import Derived.Test.YtdbobbmagmcpnaaGreatDoorRowsInC2
set_option linter.unusedVariables false
set_option linter.unusedSimpArgs false
namespace Go.Proofs.YtdbobbmagmcpnaaGreatDoor
open Go.RowKit Go.X
set_option maxRecDepth 100000 in
set_option maxHeartbeats 2000000 in
theorem c_i_Table_readRow {A1 : Option Addr} {c1 : Nat} {A2 : Option Addr} {c2 : Nat} {w : World} (p_t : DTable) (p_w : DWrite) (h1 : RdS w (Iv 0 w.heap.size) (RF e_Str) 1 A1 p_t.Cols.length c1 p_t.Cols) (h2 : RdS w (Iv 0 w.heap.size) (RF e_Idx) 3 A2 p_t.Idxs.length c2 p_t.Idxs) (o3 : ok_Table p_t) (o4 : ok_Write p_w) (pre0 : s_GoodTable p_t = true) : Cal Tryz.prog 71 #[.agg #[.string (bs (p_t.Name)), .slice A1 p_t.Cols.length c1, .slice A2 p_t.Idxs.length c2], .agg #[.string (bs (p_w.Key)), .string (bs (p_w.Val)), .bool (p_w.Gone)]] w fun v w' => ∃ A_1 c_1 lo_1 hi_1, v = .tuple #[.agg #[.slice A_1 (((i_Table_readRow p_t p_w).1.Vals).length) c_1], .bool ((i_Table_readRow p_t p_w).2)] ∧ OwnL w' lo_1 hi_1 9 1 (RF e_Str) A_1 (((i_Table_readRow p_t p_w).1.Vals).length) c_1 ((i_Table_readRow p_t p_w).1.Vals) ∧ ok_Row ((i_Table_readRow p_t p_w).1) ∧ (w.heap.size ≤ lo_1 ∧ lo_1 ≤ hi_1 ∧ hi_1 ≤ w'.heap.size) ∧ Ex w w' := by
 have hol5 : p_t.Name.length ≤ 1073741824 := o3.1
 have hol6 := o3.2.1.1
 have hol7 := o3.2.2.1
 have hol8 : p_w.Key.length ≤ 1073741824 := o4.1
 have hol9 : p_w.Val.length ≤ 1073741824 := o4.2
 have hgt := f_s_GoodTable pre0
 have hgn := gt_name pre0
 refine Cal.of (vs := [.agg #[.string (bs (p_t.Name)), .slice A1 p_t.Cols.length c1, .slice A2 p_t.Idxs.length c2], .agg #[.string (bs (p_w.Key)), .string (bs (p_w.Val)), .bool (p_w.Gone)]]) Tryz.func71 rfl Tryz.ntmps71 rfl (CW.seq (CW.region (sd rfl (yl_box (cs := [.string (bs (p_t.Name)), .slice A1 p_t.Cols.length c1, .slice A2 p_t.Idxs.length c2]) rfl rfl rfl ?_))))
 intro b10 w11 hs12 hz13 hB14 hE15
 refine sd rfl (yl_box (cs := [.string (bs (p_w.Key)), .string (bs (p_w.Val)), .bool (p_w.Gone)]) rfl rfl rfl ?_)
 intro b16 w17 hs18 hz19 hB20 hE21
 refine sd rfl (yl_alloc Tryz.ty80 (cs := [.slice none 0 0]) rfl rfl ?_)
 intro b22 w23 hs24 hz25 hB26 hE27
 refine sd rfl (yl_assign rfl rfl (SeqR.done (tn (CW.seq (CW.region (sd rfl (yl_fieldAddr Tryz.fd75_0 rfl rfl ?_)))))))
 have q28 := Box.ex hB20 hE27
 refine sd rfl (yl_load1 Tryz.ty9 rfl rfl ((q28.cell 0).trans rfl) (sd rfl (yl_fieldAddr Tryz.fd34_0 rfl rfl ?_)))
 have q30 := Box.ex (Box.ex hB14 hE21) hE27
 refine sd rfl (yl_load1 Tryz.ty9 rfl rfl ((q30.cell 0).trans rfl) ?_)
 have hol31 : p_t.Name.length ≤ 1073741824 := o3.1
 refine sd rfl (yl_sadd (a := p_t.Name) (b := ([47] : Str)) rfl rfl rfl (by first | omega | (simp only [List.length_append, List.length_cons, List.length_nil, List.length_take, List.length_drop, toS_length]; omega)) (sd rfl (yl_call Tryz.en102 rfl (opvs_cons rfl (opvs_cons rfl opvs_nil)) (Cal.mono (c_g_strings_CutPrefix p_w.Key (p_t.Name ++ ([47] : Str)) o4.1 (okS_nm hgn)) ?_))))
 rintro v34 w32 ⟨rfl, ho33, hE35⟩
 have hE35z := Ex.size hE35
 refine sd rfl (yl_move rfl rfl (sd rfl (yl_extract rfl rfl rfl (sd rfl (yl_extract rfl rfl rfl (sd rfl (yl_assign rfl rfl (sd rfl (yl_assign rfl rfl (SeqR.done (tn (CW.seq (CW.region ?_)))))))))))))
 refine sd rfl (yl_move rfl rfl (sd rfl (yl_buildSlice (cs := [.string (bs ((g_strings_CutPrefix p_w.Key (p_t.Name ++ ([47] : Str))).1))]) Tryz.un22 Tryz.ty9 (by decide) rfl (opvs_cons rfl opvs_nil) (by kernel_rfl) ?_)))
 intro b36 w37 hs38 hz39 hB40 hE41
 have hO42 : OwnL w37 b36 (b36 + 1) 9 1 (RF e_Str) (some ⟨b36, 0, none⟩) 1 1 ([(g_strings_CutPrefix p_w.Key (p_t.Name ++ ([47] : Str))).1] : List Str) := OwnL.of_box (S := fun _ => False) hB40 (Nat.le_refl _) (Nat.lt_succ_self _) (EncL.cons (c := [.string (bs ((g_strings_CutPrefix p_w.Key (p_t.Name ++ ([47] : Str))).1))]) rfl rfl EncL.nil) (Nat.le_of_ble_eq_true rfl) (fun h => h) (fun _ h => False.elim h)
 refine sd rfl (yl_fieldAddr Tryz.fd75_1 rfl rfl ?_)
 have q44 := Box.ex (Box.ex q28 hE35) hE41
 refine sd rfl (yl_load1 Tryz.ty9 rfl rfl ((q44.cell 1).trans rfl) (sd rfl (yl_call Tryz.en103 rfl (opvs_cons rfl (opvs_cons rfl opvs_nil)) (Cal.mono (c_g_strings_Split p_w.Val ([44] : Str) o4.2 (okS.lit rfl) rfl) ?_))))
 rintro v48 w45 ⟨A46, c46, lo46, hi46, rfl, h46, ho47, hrn50, hE49⟩
 have hE49z := Ex.size hE49
 have hrf51 := rf_Split p_w.Val ([44] : Str)
 obtain ⟨nw54, he55, hs56⟩ := RdS.src (OwnL.rd good_Str h46)
 have hol57 : (g_strings_Split p_w.Val ([44] : Str)).length ≤ 2147483648 := ho47.1
 refine sd rfl (yl_appendL (S := (fun _ => False)) (lo := b36) (hi := (b36 + 1)) (xs := ([(g_strings_CutPrefix p_w.Key (p_t.Name ++ ([47] : Str))).1] : List Str)) (ys := (g_strings_Split p_w.Val ([44] : Str))) good_Str Tryz.un22 Tryz.ty9 rfl (Nat.le_of_ble_eq_true rfl) rfl rfl rfl (OwnL.ex good_Str hO42 hE49) he55 hs56 rfl (by first | omega | (simp only [List.length_append, List.length_cons, List.length_nil, List.length_take, List.length_drop, List.length_replicate, List.length_set, toS_length]; omega)) (by first | omega | (simp only [List.length_append, List.length_cons, List.length_nil, List.length_take, List.length_drop, List.length_replicate, List.length_set, toS_length]; omega)) (by omega) (by omega) (fun _ h _ => False.elim h) (by omega) ?_)
 intro A58 c59 w60 row61 hO62 hG63 hrg64
 have hG63z := hG63.size
 refine sd rfl (yl_build (cs := [.slice A58 ((([(g_strings_CutPrefix p_w.Key (p_t.Name ++ ([47] : Str))).1] : List Str) ++ (g_strings_Split p_w.Val ([44] : Str))).length) c59]) rfl (opvs_cons rfl opvs_nil) (by kernel_rfl) (sd rfl (yl_alloc Tryz.ty80 (cs := [.slice none 0 0]) rfl rfl ?_)))
 intro b65 w66 hs67 hz68 hB69 hE70
 refine SeqR.u rfl rfl (yl_store (vs := [.slice A58 ((([(g_strings_CutPrefix p_w.Key (p_t.Name ++ ([47] : Str))).1] : List Str) ++ (g_strings_Split p_w.Val ([44] : Str))).length) c59]) Tryz.ty80 rfl rfl rfl rfl rfl rfl hB69 (Nat.le_of_ble_eq_true rfl) ?_)
 intro w71 hB72 hO73
 have hB72 : Box w71 b65 80 [.slice A58 ((([(g_strings_CutPrefix p_w.Key (p_t.Name ++ ([47] : Str))).1] : List Str) ++ (g_strings_Split p_w.Val ([44] : Str))).length) c59] := hB72
 have hO73z := hO73.size
 refine SeqR.done (tn (CW.seq (CW.seq (bcase ((g_strings_CutPrefix p_w.Key (p_t.Name ++ ([47] : Str))).2) (fun hb74 => ?_) (fun hb74 => ?_)))))
 ·have hol102 : (g_strings_Split p_w.Val ([44] : Str)).length ≤ 2147483648 := ho47.1
  refine bcase (i_Table_isRow p_t (⟨(([(g_strings_CutPrefix p_w.Key (p_t.Name ++ ([47] : Str))).1] : List Str) ++ (g_strings_Split p_w.Val ([44] : Str)))⟩ : DRow)) (fun hb104 => ?_) (fun hb104 => ?_)
  ·obtain ⟨hb104p0, hb104p1⟩ := f_i_isRow hb104
   have q110 := Box.only (Box.ex (Box.grown (Box.ex (Box.ex (Box.ex q30 hE35) hE41) hE49) hG63 (fun k hk => by have := hrg64 k hk; omega)) hE70) hO73 (by omega)
   have q119 := RdS.only good_Str (RdS.ex good_Str (RdS.grown good_Str (RdS.ex good_Str (RdS.ex good_Str (RdS.ex good_Str (RdS.ex good_Str (RdS.ex good_Str (RdS.ex good_Str h1 hE15) hE21) hE27) hE35) hE41) hE49) hG63 (fun k hk => by have := hrg64 k hk; simp only [Iv]; omega)) hE70) hO73 (by simp only [Iv]; omega)
   have q128 := RdS.only good_Idx (RdS.ex good_Idx (RdS.grown good_Idx (RdS.ex good_Idx (RdS.ex good_Idx (RdS.ex good_Idx (RdS.ex good_Idx (RdS.ex good_Idx (RdS.ex good_Idx h2 hE15) hE21) hE27) hE35) hE41) hE49) hG63 (fun k hk => by have := hrg64 k hk; simp only [Iv]; omega)) hE70) hO73 (by simp only [Iv]; omega)
   have q131 := OwnL.only good_Str (OwnL.ex good_Str hO62 hE70) hO73 (by omega)
   have hol132 : (g_strings_Split p_w.Val ([44] : Str)).length ≤ 2147483648 := ho47.1
   have hol139 : (g_strings_Split p_w.Val ([44] : Str)).length ≤ 2147483648 := ho47.1
   refine CW.drawsI 15 (vgetI [DetI (.bool ((g_strings_CutPrefix p_w.Key (p_t.Name ++ ([47] : Str))).2)), DetI (.bool (!((g_strings_CutPrefix p_w.Key (p_t.Name ++ ([47] : Str))).2))), DetI (.bool (!((g_strings_CutPrefix p_w.Key (p_t.Name ++ ([47] : Str))).2))), DetI (.agg #[.string (bs (p_t.Name)), .slice A1 p_t.Cols.length c1, .slice A2 p_t.Idxs.length c2]), DetI (.agg #[.slice A58 ((([(g_strings_CutPrefix p_w.Key (p_t.Name ++ ([47] : Str))).1] : List Str) ++ (g_strings_Split p_w.Val ([44] : Str))).length) c59]), DetI (.bool ((i_Table_isRow p_t (⟨(([(g_strings_CutPrefix p_w.Key (p_t.Name ++ ([47] : Str))).1] : List Str) ++ (g_strings_Split p_w.Val ([44] : Str)))⟩ : DRow)))), DetI (.bool (!(i_Table_isRow p_t (⟨(([(g_strings_CutPrefix p_w.Key (p_t.Name ++ ([47] : Str))).1] : List Str) ++ (g_strings_Split p_w.Val ([44] : Str)))⟩ : DRow)))), DetI (.bool (!(i_Table_isRow p_t (⟨(([(g_strings_CutPrefix p_w.Key (p_t.Name ++ ([47] : Str))).1] : List Str) ++ (g_strings_Split p_w.Val ([44] : Str)))⟩ : DRow)))), DetI (.bool (!(i_Table_isRow p_t (⟨(([(g_strings_CutPrefix p_w.Key (p_t.Name ++ ([47] : Str))).1] : List Str) ++ (g_strings_Split p_w.Val ([44] : Str)))⟩ : DRow)))), DetI (.agg #[.string (bs (p_w.Key)), .string (bs (p_w.Val)), .bool (p_w.Gone)]), DetI (.agg #[.string (bs (p_t.Name)), .slice A1 p_t.Cols.length c1, .slice A2 p_t.Idxs.length c2]), DetI (.agg #[.slice A58 ((([(g_strings_CutPrefix p_w.Key (p_t.Name ++ ([47] : Str))).1] : List Str) ++ (g_strings_Split p_w.Val ([44] : Str))).length) c59]), DetI (.agg #[.string (bs ((i_Table_rowWrite p_t (⟨(([(g_strings_CutPrefix p_w.Key (p_t.Name ++ ([47] : Str))).1] : List Str) ++ (g_strings_Split p_w.Val ([44] : Str)))⟩ : DRow)).Key)), .string (bs ((i_Table_rowWrite p_t (⟨(([(g_strings_CutPrefix p_w.Key (p_t.Name ++ ([47] : Str))).1] : List Str) ++ (g_strings_Split p_w.Val ([44] : Str)))⟩ : DRow)).Val)), .bool ((i_Table_rowWrite p_t (⟨(([(g_strings_CutPrefix p_w.Key (p_t.Name ++ ([47] : Str))).1] : List Str) ++ (g_strings_Split p_w.Val ([44] : Str)))⟩ : DRow)).Gone)]), DetI (.bool (!((p_w.Key == ((i_Table_rowWrite p_t (⟨(([(g_strings_CutPrefix p_w.Key (p_t.Name ++ ([47] : Str))).1] : List Str) ++ (g_strings_Split p_w.Val ([44] : Str)))⟩ : DRow)).Key)) && ((p_w.Val == ((i_Table_rowWrite p_t (⟨(([(g_strings_CutPrefix p_w.Key (p_t.Name ++ ([47] : Str))).1] : List Str) ++ (g_strings_Split p_w.Val ([44] : Str)))⟩ : DRow)).Val)) && (p_w.Gone == ((i_Table_rowWrite p_t (⟨(([(g_strings_CutPrefix p_w.Key (p_t.Name ++ ([47] : Str))).1] : List Str) ++ (g_strings_Split p_w.Val ([44] : Str)))⟩ : DRow)).Gone)))))), DetI (.bool (!((p_w.Key == ((i_Table_rowWrite p_t (⟨(([(g_strings_CutPrefix p_w.Key (p_t.Name ++ ([47] : Str))).1] : List Str) ++ (g_strings_Split p_w.Val ([44] : Str)))⟩ : DRow)).Key)) && ((p_w.Val == ((i_Table_rowWrite p_t (⟨(([(g_strings_CutPrefix p_w.Key (p_t.Name ++ ([47] : Str))).1] : List Str) ++ (g_strings_Split p_w.Val ([44] : Str)))⟩ : DRow)).Val)) && (p_w.Gone == ((i_Table_rowWrite p_t (⟨(([(g_strings_CutPrefix p_w.Key (p_t.Name ++ ([47] : Str))).1] : List Str) ++ (g_strings_Split p_w.Val ([44] : Str)))⟩ : DRow)).Gone))))))]) Tryz.follows rfl rfl rfl rfl rfl rfl (vgetI_stable ⟨StableI.det _, StableI.det _, StableI.det _, StableI.det _, StableI.det _, StableI.det _, StableI.det _, StableI.det _, StableI.det _, StableI.det _, StableI.det _, StableI.det _, StableI.det _, StableI.det _, StableI.det _, trivial⟩) ⟨?_, ?_, ?_, ?_, ?_, ?_, ?_, ?_, ?_, ?_, ?_, ?_, ?_, ?_, ?_, trivial⟩ ?_
   ·exact fun _ _ h => os rfl ((yl_move rfl (h.old 7 _ rfl rfl) kI))
   ·exact fun _ _ h => os rfl ((yl_not rfl (h.dt 0 25 rfl rfl rfl) kI))
   ·exact fun _ _ h => os rfl ((yl_move rfl (h.dt 1 26 rfl rfl rfl) kI))
   ·exact fun _ _ h => OpR.want rfl rfl (h.dt 2 27 rfl rfl rfl) (not_t hb74) (Yl.sameI (yl_loadN (cs := [.string (bs (p_t.Name)), .slice A1 p_t.Cols.length c1, .slice A2 p_t.Idxs.length c2]) Tryz.ty34 rfl (h.old 2 _ rfl rfl) ((Box.ex q110 h.ex).cells (n := 3) rfl) rfl kI))
   ·exact fun _ _ h => OpR.want rfl rfl (h.dt 2 27 rfl rfl rfl) (not_t hb74) (Yl.sameI (yl_loadN (cs := [.slice A58 ((([(g_strings_CutPrefix p_w.Key (p_t.Name ++ ([47] : Str))).1] : List Str) ++ (g_strings_Split p_w.Val ([44] : Str))).length) c59]) Tryz.ty80 rfl (h.old 8 _ rfl rfl) ((Box.ex hB72 h.ex).cells (n := 1) rfl) rfl kI))
   ·intro L170 w171 hi172
    have hE173 := hi172.ex
    have hE173z := Ex.size hE173
    have hol181 : (g_strings_Split p_w.Val ([44] : Str)).length ≤ 2147483648 := ho47.1
    refine OpR.want rfl rfl (hi172.dt 2 27 rfl rfl rfl) (not_t hb74) (yl_call Tryz.en104 rfl (opvs_cons (hi172.dt 3 28 rfl rfl rfl) (opvs_cons (hi172.dt 4 29 rfl rfl rfl) opvs_nil)) (Cal.mono (c_i_Table_isRow p_t (⟨(([(g_strings_CutPrefix p_w.Key (p_t.Name ++ ([47] : Str))).1] : List Str) ++ (g_strings_Split p_w.Val ([44] : Str)))⟩ : DRow) (RdS.up (RdS.ex good_Str q119 hE173) good_Str) (RdS.up (RdS.ex good_Idx q128 hE173) good_Idx) (RdS.up (OwnL.rd good_Str (OwnL.ex good_Str q131 hE173)) good_Str) o3 (okL.mk (xs := (([(g_strings_CutPrefix p_w.Key (p_t.Name ++ ([47] : Str))).1] : List Str) ++ (g_strings_Split p_w.Val ([44] : Str)))) (by first | omega | (simp only [List.length_append, List.length_cons, List.length_nil, List.length_take, List.length_drop, List.length_replicate, List.length_set, toS_length]; omega)) (okE.append ((okL.mk (Nat.le_of_ble_eq_true rfl) (okE.cons ho33 okE.nil))).2 (ho47).2))) ?_))
    rintro v183 w182 ⟨rfl, hE184⟩
    exact ⟨rfl, hE184⟩
   ·exact fun _ _ h => OpR.want rfl rfl (h.dt 2 27 rfl rfl rfl) (not_t hb74) (Yl.sameI (yl_not rfl (h.dt 5 30 rfl rfl rfl) kI))
   ·exact fun _ _ h => os rfl ((yl_pick_f rfl (h.dt 2 27 rfl rfl rfl) (not_t hb74) (h.dt 6 31 rfl rfl rfl) kI))
   ·exact fun _ _ h => os rfl ((yl_move rfl (h.dt 7 32 rfl rfl rfl) kI))
   ·intro L202 w203 hi204
    have hE205 := hi204.ex
    have hE205z := Ex.size hE205
    exact OpR.want rfl rfl (hi204.dt 8 33 rfl rfl rfl) (not_t hb104) (Yl.sameI (yl_loadN (cs := [.string (bs (p_w.Key)), .string (bs (p_w.Val)), .bool (p_w.Gone)]) Tryz.ty75 rfl (hi204.old 3 _ rfl rfl) ((Box.ex (Box.only (Box.ex (Box.grown (Box.ex q44 hE49) hG63 (fun k hk => by have := hrg64 k hk; omega)) hE70) hO73 (by omega)) hE205).cells (n := 3) rfl) rfl kI))
   ·exact fun _ _ h => OpR.want rfl rfl (h.dt 8 33 rfl rfl rfl) (not_t hb104) (Yl.sameI (yl_loadN (cs := [.string (bs (p_t.Name)), .slice A1 p_t.Cols.length c1, .slice A2 p_t.Idxs.length c2]) Tryz.ty34 rfl (h.old 2 _ rfl rfl) ((Box.ex q110 h.ex).cells (n := 3) rfl) rfl kI))
   ·exact fun _ _ h => OpR.want rfl rfl (h.dt 8 33 rfl rfl rfl) (not_t hb104) (Yl.sameI (yl_loadN (cs := [.slice A58 ((([(g_strings_CutPrefix p_w.Key (p_t.Name ++ ([47] : Str))).1] : List Str) ++ (g_strings_Split p_w.Val ([44] : Str))).length) c59]) Tryz.ty80 rfl (h.old 8 _ rfl rfl) ((Box.ex hB72 h.ex).cells (n := 1) rfl) rfl kI))
   ·intro L223 w224 hi225
    have hE226 := hi225.ex
    have hE226z := Ex.size hE226
    have hol234 : (g_strings_Split p_w.Val ([44] : Str)).length ≤ 2147483648 := ho47.1
    refine OpR.want rfl rfl (hi225.dt 8 33 rfl rfl rfl) (not_t hb104) (yl_call Tryz.en53 rfl (opvs_cons (hi225.dt 10 35 rfl rfl rfl) (opvs_cons (hi225.dt 11 36 rfl rfl rfl) opvs_nil)) (Cal.mono (c_i_Table_rowWrite p_t (⟨(([(g_strings_CutPrefix p_w.Key (p_t.Name ++ ([47] : Str))).1] : List Str) ++ (g_strings_Split p_w.Val ([44] : Str)))⟩ : DRow) (RdS.up (RdS.ex good_Str q119 hE226) good_Str) (RdS.up (RdS.ex good_Idx q128 hE226) good_Idx) (RdS.up (OwnL.rd good_Str (OwnL.ex good_Str q131 hE226)) good_Str) o3 (okL.mk (xs := (([(g_strings_CutPrefix p_w.Key (p_t.Name ++ ([47] : Str))).1] : List Str) ++ (g_strings_Split p_w.Val ([44] : Str)))) (by first | omega | (simp only [List.length_append, List.length_cons, List.length_nil, List.length_take, List.length_drop, List.length_replicate, List.length_set, toS_length]; omega)) (okE.append ((okL.mk (Nat.le_of_ble_eq_true rfl) (okE.cons ho33 okE.nil))).2 (ho47).2)) (by first | omega | assumption | (simp only [IntKind.wrap_i64] at *; omega) | (simp only [List.length_append, List.length_cons, List.length_nil]; omega)) (by first | omega | assumption | (simp only [IntKind.wrap_i64] at *; omega) | (simp only [List.length_append, List.length_cons, List.length_nil]; omega)) (by first | omega | assumption | (simp only [IntKind.wrap_i64] at *; omega) | (simp only [List.length_append, List.length_cons, List.length_nil]; omega))) ?_))
    rintro v236 w235 ⟨rfl, hE237⟩
    exact ⟨rfl, hE237⟩
   ·exact fun _ _ h => OpR.want rfl rfl (h.dt 8 33 rfl rfl rfl) (not_t hb104) (Yl.sameI (yl_aneq (xs := [.string (bs (p_w.Key)), .string (bs (p_w.Val)), .bool (p_w.Gone)]) (ys := [.string (bs ((i_Table_rowWrite p_t (⟨(([(g_strings_CutPrefix p_w.Key (p_t.Name ++ ([47] : Str))).1] : List Str) ++ (g_strings_Split p_w.Val ([44] : Str)))⟩ : DRow)).Key)), .string (bs ((i_Table_rowWrite p_t (⟨(([(g_strings_CutPrefix p_w.Key (p_t.Name ++ ([47] : Str))).1] : List Str) ++ (g_strings_Split p_w.Val ([44] : Str)))⟩ : DRow)).Val)), .bool ((i_Table_rowWrite p_t (⟨(([(g_strings_CutPrefix p_w.Key (p_t.Name ++ ([47] : Str))).1] : List Str) ++ (g_strings_Split p_w.Val ([44] : Str)))⟩ : DRow)).Gone)]) Tryz.ae75 rfl (h.dt 9 34 rfl rfl rfl) (h.dt 12 37 rfl rfl rfl) kI))
   ·exact fun _ _ h => os rfl ((yl_pick_f rfl (h.dt 8 33 rfl rfl rfl) (not_t hb104) (h.dt 13 38 rfl rfl rfl) kI))
   ·intro fl254 fh255 L251 w252 hp253
    have hE256 := hp253.ex
    have hE256z := Ex.size hE256
    refine SeqR.done (tn (CW.sub (Sub.cons (d := 4) (hp253.old 4 _ rfl rfl) (Sub.cons (d := 8) (hp253.old 8 _ rfl rfl) (Sub.cons (d := 39) (hp253.nt 14 39 rfl rfl rfl) (Sub.nil _)))) (bcase ((p_w.Key == ((i_Table_rowWrite p_t (⟨(([(g_strings_CutPrefix p_w.Key (p_t.Name ++ ([47] : Str))).1] : List Str) ++ (g_strings_Split p_w.Val ([44] : Str)))⟩ : DRow)).Key)) && ((p_w.Val == ((i_Table_rowWrite p_t (⟨(([(g_strings_CutPrefix p_w.Key (p_t.Name ++ ([47] : Str))).1] : List Str) ++ (g_strings_Split p_w.Val ([44] : Str)))⟩ : DRow)).Val)) && (p_w.Gone == ((i_Table_rowWrite p_t (⟨(([(g_strings_CutPrefix p_w.Key (p_t.Name ++ ([47] : Str))).1] : List Str) ++ (g_strings_Split p_w.Val ([44] : Str)))⟩ : DRow)).Gone)))) (fun hb260 => ?_) (fun hb260 => ?_))))
    ·refine CW.cond_f rfl (not_t hb260) (CW.skip (tn (CW.seq (CW.region (sd rfl (yl_loadN (cs := [.slice A58 ((([(g_strings_CutPrefix p_w.Key (p_t.Name ++ ([47] : Str))).1] : List Str) ++ (g_strings_Split p_w.Val ([44] : Str))).length) c59]) Tryz.ty80 rfl rfl ((Box.ex hB72 hE256).cells (n := 1) rfl) rfl (SeqR.u rfl rfl (yl_store (vs := [.slice A58 ((([(g_strings_CutPrefix p_w.Key (p_t.Name ++ ([47] : Str))).1] : List Str) ++ (g_strings_Split p_w.Val ([44] : Str))).length) c59]) Tryz.ty80 rfl rfl rfl rfl rfl rfl (Box.ex (Box.only (Box.ex (Box.grown (Box.ex (Box.ex (Box.ex hB26 hE35) hE41) hE49) hG63 (fun k hk => by have := hrg64 k hk; omega)) hE70) hO73 (by omega)) hE256) (Nat.le_of_ble_eq_true rfl) ?_))))))))
     intro w269 hB270 hO271
     have hB270 : Box w269 b22 80 [.slice A58 ((([(g_strings_CutPrefix p_w.Key (p_t.Name ++ ([47] : Str))).1] : List Str) ++ (g_strings_Split p_w.Val ([44] : Str))).length) c59] := hB270
     have hO271z := hO271.size
     refine sd rfl (yl_assign rfl rfl (SeqR.done (tn (CW.ret (rr rfl (.cons ⟨_, rfl, run_loadN Tryz.ty80 (cs := [.slice A58 ((([(g_strings_CutPrefix p_w.Key (p_t.Name ++ ([47] : Str))).1] : List Str) ++ (g_strings_Split p_w.Val ([44] : Str))).length) c59]) rfl (hB270.cells (n := 1) rfl)⟩ (.cons rfl .nil)) ?_)))))
     have hM272 : (i_Table_readRow p_t p_w) = (((⟨(([(g_strings_CutPrefix p_w.Key (p_t.Name ++ ([47] : Str))).1] : List Str) ++ (g_strings_Split p_w.Val ([44] : Str)))⟩ : DRow), true)) := by simp only [i_Table_readRow, hb74, hb104, hb260, cond_true, cond_false, loopE_done, loopE_ret]
     have hol275 : (g_strings_Split p_w.Val ([44] : Str)).length ≤ 2147483648 := ho47.1
     rw [hM272]
     exact ⟨A58, c59, b36, w60.heap.size, rfl, (OwnL.only good_Str (OwnL.ex good_Str q131 hE256) hO271 (by omega)), (okL.mk (xs := (([(g_strings_CutPrefix p_w.Key (p_t.Name ++ ([47] : Str))).1] : List Str) ++ (g_strings_Split p_w.Val ([44] : Str)))) (by first | omega | (simp only [List.length_append, List.length_cons, List.length_nil, List.length_take, List.length_drop, List.length_replicate, List.length_set, toS_length]; omega)) (okE.append ((okL.mk (Nat.le_of_ble_eq_true rfl) (okE.cons ho33 okE.nil))).2 (ho47).2)), (by omega), (Below.only (Ex.trans (Below.only (Ex.trans (Below.grown (Ex.trans (Ex.trans (Ex.trans (Ex.trans (Ex.trans (Ex.trans (Ex.refl w) hE15) hE21) hE27) hE35) hE41) hE49) hG63 (by omega) (fun k hk => by have := hrg64 k hk; omega)) hE70) hO73 (by omega)) hE256) hO271 (by omega))⟩
    ·refine CW.cond_t rfl (not_f hb260) (CW.seq (CW.region (sd rfl (yl_build (cs := [.slice none 0 0]) rfl opvs_nil (by kernel_rfl) (SeqR.u rfl rfl (yl_store (vs := [.slice none 0 0]) Tryz.ty80 rfl rfl rfl rfl rfl rfl (Box.ex (Box.only (Box.ex (Box.grown (Box.ex (Box.ex (Box.ex hB26 hE35) hE41) hE49) hG63 (fun k hk => by have := hrg64 k hk; omega)) hE70) hO73 (by omega)) hE256) (Nat.le_of_ble_eq_true rfl) ?_))))))
     intro w294 hB295 hO296
     have hB295 : Box w294 b22 80 [.slice none 0 0] := hB295
     have hO296z := hO296.size
     refine sd rfl (yl_assign rfl rfl (SeqR.done (tn (CW.ret (tr (rr rfl (.cons ⟨_, rfl, run_loadN Tryz.ty80 (cs := [.slice none 0 0]) rfl (hB295.cells (n := 1) rfl)⟩ (.cons rfl .nil)) ?_))))))
     have hM297 : (i_Table_readRow p_t p_w) = (((⟨[]⟩ : DRow), false)) := by simp only [i_Table_readRow, hb74, hb104, hb260, cond_true, cond_false, loopE_done, loopE_ret]
     rw [hM297]
     exact ⟨none, 0, w294.heap.size, w294.heap.size, rfl, (OwnL.nil _ _ _ _ _ _), (okL.nil _), (by omega), (Below.only (Ex.trans (Below.only (Ex.trans (Below.grown (Ex.trans (Ex.trans (Ex.trans (Ex.trans (Ex.trans (Ex.trans (Ex.refl w) hE15) hE21) hE27) hE35) hE41) hE49) hG63 (by omega) (fun k hk => by have := hrg64 k hk; omega)) hE70) hO73 (by omega)) hE256) hO296 (by omega))⟩
  ·have hol336 : (g_strings_Split p_w.Val ([44] : Str)).length ≤ 2147483648 := ho47.1
   refine CW.drawsI 15 (vgetI [DetI (.bool ((g_strings_CutPrefix p_w.Key (p_t.Name ++ ([47] : Str))).2)), DetI (.bool (!((g_strings_CutPrefix p_w.Key (p_t.Name ++ ([47] : Str))).2))), DetI (.bool (!((g_strings_CutPrefix p_w.Key (p_t.Name ++ ([47] : Str))).2))), DetI (.agg #[.string (bs (p_t.Name)), .slice A1 p_t.Cols.length c1, .slice A2 p_t.Idxs.length c2]), DetI (.agg #[.slice A58 ((([(g_strings_CutPrefix p_w.Key (p_t.Name ++ ([47] : Str))).1] : List Str) ++ (g_strings_Split p_w.Val ([44] : Str))).length) c59]), DetI (.bool ((i_Table_isRow p_t (⟨(([(g_strings_CutPrefix p_w.Key (p_t.Name ++ ([47] : Str))).1] : List Str) ++ (g_strings_Split p_w.Val ([44] : Str)))⟩ : DRow)))), DetI (.bool (!(i_Table_isRow p_t (⟨(([(g_strings_CutPrefix p_w.Key (p_t.Name ++ ([47] : Str))).1] : List Str) ++ (g_strings_Split p_w.Val ([44] : Str)))⟩ : DRow)))), DetI (.bool (!(i_Table_isRow p_t (⟨(([(g_strings_CutPrefix p_w.Key (p_t.Name ++ ([47] : Str))).1] : List Str) ++ (g_strings_Split p_w.Val ([44] : Str)))⟩ : DRow)))), DetI (.bool (!(i_Table_isRow p_t (⟨(([(g_strings_CutPrefix p_w.Key (p_t.Name ++ ([47] : Str))).1] : List Str) ++ (g_strings_Split p_w.Val ([44] : Str)))⟩ : DRow)))), DetI (undef), DetI (undef), DetI (undef), DetI (undef), DetI (undef), DetI (.bool (true))]) Tryz.follows rfl rfl rfl rfl rfl rfl (vgetI_stable ⟨StableI.det _, StableI.det _, StableI.det _, StableI.det _, StableI.det _, StableI.det _, StableI.det _, StableI.det _, StableI.det _, StableI.det _, StableI.det _, StableI.det _, StableI.det _, StableI.det _, StableI.det _, trivial⟩) ⟨?_, ?_, ?_, ?_, ?_, ?_, ?_, ?_, ?_, ?_, ?_, ?_, ?_, ?_, ?_, trivial⟩ ?_
   ·exact fun _ _ h => os rfl ((yl_move rfl (h.old 7 _ rfl rfl) kI))
   ·exact fun _ _ h => os rfl ((yl_not rfl (h.dt 0 25 rfl rfl rfl) kI))
   ·exact fun _ _ h => os rfl ((yl_move rfl (h.dt 1 26 rfl rfl rfl) kI))
   ·intro L353 w354 hi355
    have hE356 := hi355.ex
    have hE356z := Ex.size hE356
    exact OpR.want rfl rfl (hi355.dt 2 27 rfl rfl rfl) (not_t hb74) (Yl.sameI (yl_loadN (cs := [.string (bs (p_t.Name)), .slice A1 p_t.Cols.length c1, .slice A2 p_t.Idxs.length c2]) Tryz.ty34 rfl (hi355.old 2 _ rfl rfl) ((Box.ex (Box.only (Box.ex (Box.grown (Box.ex (Box.ex (Box.ex q30 hE35) hE41) hE49) hG63 (fun k hk => by have := hrg64 k hk; omega)) hE70) hO73 (by omega)) hE356).cells (n := 3) rfl) rfl kI))
   ·exact fun _ _ h => OpR.want rfl rfl (h.dt 2 27 rfl rfl rfl) (not_t hb74) (Yl.sameI (yl_loadN (cs := [.slice A58 ((([(g_strings_CutPrefix p_w.Key (p_t.Name ++ ([47] : Str))).1] : List Str) ++ (g_strings_Split p_w.Val ([44] : Str))).length) c59]) Tryz.ty80 rfl (h.old 8 _ rfl rfl) ((Box.ex hB72 h.ex).cells (n := 1) rfl) rfl kI))
   ·intro L367 w368 hi369
    have hE370 := hi369.ex
    have hE370z := Ex.size hE370
    have hol378 : (g_strings_Split p_w.Val ([44] : Str)).length ≤ 2147483648 := ho47.1
    refine OpR.want rfl rfl (hi369.dt 2 27 rfl rfl rfl) (not_t hb74) (yl_call Tryz.en104 rfl (opvs_cons (hi369.dt 3 28 rfl rfl rfl) (opvs_cons (hi369.dt 4 29 rfl rfl rfl) opvs_nil)) (Cal.mono (c_i_Table_isRow p_t (⟨(([(g_strings_CutPrefix p_w.Key (p_t.Name ++ ([47] : Str))).1] : List Str) ++ (g_strings_Split p_w.Val ([44] : Str)))⟩ : DRow) (RdS.up (RdS.ex good_Str (RdS.only good_Str (RdS.ex good_Str (RdS.grown good_Str (RdS.ex good_Str (RdS.ex good_Str (RdS.ex good_Str (RdS.ex good_Str (RdS.ex good_Str (RdS.ex good_Str h1 hE15) hE21) hE27) hE35) hE41) hE49) hG63 (fun k hk => by have := hrg64 k hk; simp only [Iv]; omega)) hE70) hO73 (by simp only [Iv]; omega)) hE370) good_Str) (RdS.up (RdS.ex good_Idx (RdS.only good_Idx (RdS.ex good_Idx (RdS.grown good_Idx (RdS.ex good_Idx (RdS.ex good_Idx (RdS.ex good_Idx (RdS.ex good_Idx (RdS.ex good_Idx (RdS.ex good_Idx h2 hE15) hE21) hE27) hE35) hE41) hE49) hG63 (fun k hk => by have := hrg64 k hk; simp only [Iv]; omega)) hE70) hO73 (by simp only [Iv]; omega)) hE370) good_Idx) (RdS.up (OwnL.rd good_Str (OwnL.ex good_Str (OwnL.only good_Str (OwnL.ex good_Str hO62 hE70) hO73 (by omega)) hE370)) good_Str) o3 (okL.mk (xs := (([(g_strings_CutPrefix p_w.Key (p_t.Name ++ ([47] : Str))).1] : List Str) ++ (g_strings_Split p_w.Val ([44] : Str)))) (by first | omega | (simp only [List.length_append, List.length_cons, List.length_nil, List.length_take, List.length_drop, List.length_replicate, List.length_set, toS_length]; omega)) (okE.append ((okL.mk (Nat.le_of_ble_eq_true rfl) (okE.cons ho33 okE.nil))).2 (ho47).2))) ?_))
    rintro v380 w379 ⟨rfl, hE381⟩
    exact ⟨rfl, hE381⟩
   ·exact fun _ _ h => OpR.want rfl rfl (h.dt 2 27 rfl rfl rfl) (not_t hb74) (Yl.sameI (yl_not rfl (h.dt 5 30 rfl rfl rfl) kI))
   ·exact fun _ _ h => os rfl ((yl_pick_f rfl (h.dt 2 27 rfl rfl rfl) (not_t hb74) (h.dt 6 31 rfl rfl rfl) kI))
   ·exact fun _ _ h => os rfl ((yl_move rfl (h.dt 7 32 rfl rfl rfl) kI))
   ·exact fun _ _ h => OpR.skip rfl rfl (h.dt 8 33 rfl rfl rfl) (not_f hb104) ⟨rfl, Ex.refl _⟩
   ·exact fun _ _ h => OpR.skip rfl rfl (h.dt 8 33 rfl rfl rfl) (not_f hb104) ⟨rfl, Ex.refl _⟩
   ·exact fun _ _ h => OpR.skip rfl rfl (h.dt 8 33 rfl rfl rfl) (not_f hb104) ⟨rfl, Ex.refl _⟩
   ·exact fun _ _ h => OpR.skip rfl rfl (h.dt 8 33 rfl rfl rfl) (not_f hb104) ⟨rfl, Ex.refl _⟩
   ·exact fun _ _ h => OpR.skip rfl rfl (h.dt 8 33 rfl rfl rfl) (not_f hb104) ⟨rfl, Ex.refl _⟩
   ·exact fun _ _ h => os rfl ((yl_pick_t rfl (h.dt 8 33 rfl rfl rfl) (not_f hb104) rfl kI))
   ·intro fl433 fh434 L430 w431 hp432
    have hE435 := hp432.ex
    have hE435z := Ex.size hE435
    refine SeqR.done (tn (CW.sub (Sub.cons (d := 4) (hp432.old 4 _ rfl rfl) (Sub.cons (d := 8) (hp432.old 8 _ rfl rfl) (Sub.cons (d := 39) (hp432.nt 14 39 rfl rfl rfl) (Sub.nil _)))) (CW.cond_t rfl rfl (CW.seq (CW.region (sd rfl (yl_build (cs := [.slice none 0 0]) rfl opvs_nil (by kernel_rfl) (SeqR.u rfl rfl (yl_store (vs := [.slice none 0 0]) Tryz.ty80 rfl rfl rfl rfl rfl rfl (Box.ex (Box.only (Box.ex (Box.grown (Box.ex (Box.ex (Box.ex hB26 hE35) hE41) hE49) hG63 (fun k hk => by have := hrg64 k hk; omega)) hE70) hO73 (by omega)) hE435) (Nat.le_of_ble_eq_true rfl) ?_)))))))))
    intro w446 hB447 hO448
    have hB447 : Box w446 b22 80 [.slice none 0 0] := hB447
    have hO448z := hO448.size
    refine sd rfl (yl_assign rfl rfl (SeqR.done (tn (CW.ret (tr (rr rfl (.cons ⟨_, rfl, run_loadN Tryz.ty80 (cs := [.slice none 0 0]) rfl (hB447.cells (n := 1) rfl)⟩ (.cons rfl .nil)) ?_))))))
    have hM449 : (i_Table_readRow p_t p_w) = (((⟨[]⟩ : DRow), false)) := by simp only [i_Table_readRow, hb74, hb104, cond_true, cond_false, loopE_done, loopE_ret]
    rw [hM449]
    exact ⟨none, 0, w446.heap.size, w446.heap.size, rfl, (OwnL.nil _ _ _ _ _ _), (okL.nil _), (by omega), (Below.only (Ex.trans (Below.only (Ex.trans (Below.grown (Ex.trans (Ex.trans (Ex.trans (Ex.trans (Ex.trans (Ex.trans (Ex.refl w) hE15) hE21) hE27) hE35) hE41) hE49) hG63 (by omega) (fun k hk => by have := hrg64 k hk; omega)) hE70) hO73 (by omega)) hE435) hO448 (by omega))⟩
 ·refine CW.drawsI 15 (vgetI [DetI (.bool ((g_strings_CutPrefix p_w.Key (p_t.Name ++ ([47] : Str))).2)), DetI (.bool (!((g_strings_CutPrefix p_w.Key (p_t.Name ++ ([47] : Str))).2))), DetI (.bool (!((g_strings_CutPrefix p_w.Key (p_t.Name ++ ([47] : Str))).2))), DetI (undef), DetI (undef), DetI (undef), DetI (undef), DetI (.bool (true)), DetI (.bool (true)), DetI (undef), DetI (undef), DetI (undef), DetI (undef), DetI (undef), DetI (.bool (true))]) Tryz.follows rfl rfl rfl rfl rfl rfl (vgetI_stable ⟨StableI.det _, StableI.det _, StableI.det _, StableI.det _, StableI.det _, StableI.det _, StableI.det _, StableI.det _, StableI.det _, StableI.det _, StableI.det _, StableI.det _, StableI.det _, StableI.det _, StableI.det _, trivial⟩) ⟨?_, ?_, ?_, ?_, ?_, ?_, ?_, ?_, ?_, ?_, ?_, ?_, ?_, ?_, ?_, trivial⟩ ?_
  ·exact fun _ _ h => os rfl ((yl_move rfl (h.old 7 _ rfl rfl) kI))
  ·exact fun _ _ h => os rfl ((yl_not rfl (h.dt 0 25 rfl rfl rfl) kI))
  ·exact fun _ _ h => os rfl ((yl_move rfl (h.dt 1 26 rfl rfl rfl) kI))
  ·exact fun _ _ h => OpR.skip rfl rfl (h.dt 2 27 rfl rfl rfl) (not_f hb74) ⟨rfl, Ex.refl _⟩
  ·exact fun _ _ h => OpR.skip rfl rfl (h.dt 2 27 rfl rfl rfl) (not_f hb74) ⟨rfl, Ex.refl _⟩
  ·exact fun _ _ h => OpR.skip rfl rfl (h.dt 2 27 rfl rfl rfl) (not_f hb74) ⟨rfl, Ex.refl _⟩
  ·exact fun _ _ h => OpR.skip rfl rfl (h.dt 2 27 rfl rfl rfl) (not_f hb74) ⟨rfl, Ex.refl _⟩
  ·exact fun _ _ h => os rfl ((yl_pick_t rfl (h.dt 2 27 rfl rfl rfl) (not_f hb74) rfl kI))
  ·exact fun _ _ h => os rfl ((yl_move rfl (h.dt 7 32 rfl rfl rfl) kI))
  ·exact fun _ _ h => OpR.skip rfl rfl (h.dt 8 33 rfl rfl rfl) rfl ⟨rfl, Ex.refl _⟩
  ·exact fun _ _ h => OpR.skip rfl rfl (h.dt 8 33 rfl rfl rfl) rfl ⟨rfl, Ex.refl _⟩
  ·exact fun _ _ h => OpR.skip rfl rfl (h.dt 8 33 rfl rfl rfl) rfl ⟨rfl, Ex.refl _⟩
  ·exact fun _ _ h => OpR.skip rfl rfl (h.dt 8 33 rfl rfl rfl) rfl ⟨rfl, Ex.refl _⟩
  ·exact fun _ _ h => OpR.skip rfl rfl (h.dt 8 33 rfl rfl rfl) rfl ⟨rfl, Ex.refl _⟩
  ·exact fun _ _ h => os rfl ((yl_pick_t rfl (h.dt 8 33 rfl rfl rfl) rfl rfl kI))
  ·intro fl541 fh542 L538 w539 hp540
   have hE543 := hp540.ex
   have hE543z := Ex.size hE543
   refine SeqR.done (tn (CW.sub (Sub.cons (d := 4) (hp540.old 4 _ rfl rfl) (Sub.cons (d := 8) (hp540.old 8 _ rfl rfl) (Sub.cons (d := 39) (hp540.nt 14 39 rfl rfl rfl) (Sub.nil _)))) (CW.cond_t rfl rfl (CW.seq (CW.region (sd rfl (yl_build (cs := [.slice none 0 0]) rfl opvs_nil (by kernel_rfl) (SeqR.u rfl rfl (yl_store (vs := [.slice none 0 0]) Tryz.ty80 rfl rfl rfl rfl rfl rfl (Box.ex (Box.only (Box.ex (Box.grown (Box.ex (Box.ex (Box.ex hB26 hE35) hE41) hE49) hG63 (fun k hk => by have := hrg64 k hk; omega)) hE70) hO73 (by omega)) hE543) (Nat.le_of_ble_eq_true rfl) ?_)))))))))
   intro w554 hB555 hO556
   have hB555 : Box w554 b22 80 [.slice none 0 0] := hB555
   have hO556z := hO556.size
   refine sd rfl (yl_assign rfl rfl (SeqR.done (tn (CW.ret (tr (rr rfl (.cons ⟨_, rfl, run_loadN Tryz.ty80 (cs := [.slice none 0 0]) rfl (hB555.cells (n := 1) rfl)⟩ (.cons rfl .nil)) ?_))))))
   have hM557 : (i_Table_readRow p_t p_w) = (((⟨[]⟩ : DRow), false)) := by simp only [i_Table_readRow, hb74, cond_true, cond_false, loopE_done, loopE_ret]
   rw [hM557]
   exact ⟨none, 0, w554.heap.size, w554.heap.size, rfl, (OwnL.nil _ _ _ _ _ _), (okL.nil _), (by omega), (Below.only (Ex.trans (Below.only (Ex.trans (Below.grown (Ex.trans (Ex.trans (Ex.trans (Ex.trans (Ex.trans (Ex.trans (Ex.refl w) hE15) hE21) hE27) hE35) hE41) hE49) hG63 (by omega) (fun k hk => by have := hrg64 k hk; omega)) hE70) hO73 (by omega)) hE543) hO556 (by omega))⟩
set_option maxRecDepth 100000 in
set_option maxHeartbeats 2000000 in
theorem c_i_Table_rowsIn {A1 : Option Addr} {c1 : Nat} {A2 : Option Addr} {c2 : Nat} {A4 : Option Addr} {c4 : Nat} {w : World} (p_t : DTable) (p_store : List DWrite) (h1 : RdS w (Iv 0 w.heap.size) (RF e_Str) 1 A1 p_t.Cols.length c1 p_t.Cols) (h2 : RdS w (Iv 0 w.heap.size) (RF e_Idx) 3 A2 p_t.Idxs.length c2 p_t.Idxs) (h4 : RdS w (Iv 0 w.heap.size) (RF e_Write) 3 A4 p_store.length c4 p_store) (o3 : ok_Table p_t) (o5 : (okL ok_Write) p_store) (pre0 : s_GoodTable p_t = true) : Cal Tryz.prog 34 #[.agg #[.string (bs (p_t.Name)), .slice A1 p_t.Cols.length c1, .slice A2 p_t.Idxs.length c2], .slice A4 p_store.length c4] w fun v w' => ∃ A_1 c_1 lo_1 hi_1, v = .slice A_1 ((i_Table_rowsIn p_t p_store).length) c_1 ∧ OwnD w' lo_1 hi_1 80 1 RO_Row A_1 ((i_Table_rowsIn p_t p_store).length) c_1 (i_Table_rowsIn p_t p_store) ∧ (okL ok_Row) (i_Table_rowsIn p_t p_store) ∧ (w.heap.size ≤ lo_1 ∧ lo_1 ≤ hi_1 ∧ hi_1 ≤ w'.heap.size) ∧ Ex w w' := by
 have hol6 : p_t.Name.length ≤ 1073741824 := o3.1
 have hol7 := o3.2.1.1
 have hol8 := o3.2.2.1
 have hol9 := o5.1
 refine Cal.of (vs := [.agg #[.string (bs (p_t.Name)), .slice A1 p_t.Cols.length c1, .slice A2 p_t.Idxs.length c2], .slice A4 p_store.length c4]) Tryz.func34 rfl Tryz.ntmps34 rfl (CW.seq (CW.region (sd rfl (yl_box (cs := [.string (bs (p_t.Name)), .slice A1 p_t.Cols.length c1, .slice A2 p_t.Idxs.length c2]) rfl rfl rfl ?_))))
 intro b10 w11 hs12 hz13 hB14 hE15
 refine sd rfl (yl_assign rfl rfl (SeqR.done (tn (CW.seq (CW.region (sd rfl (yl_buildSlice (cs := []) Tryz.un29 Tryz.ty80 (by decide) rfl opvs_nil (by kernel_rfl) ?_)))))))
 intro b16 w17 hs18 hz19 hB20 hE21
 have hO22 : OwnL w17 b16 (b16 + 1) 80 1 R_Row (some ⟨b16, 0, none⟩) 0 0 ([] : List DRow) := OwnL.of_box (S := fun _ => False) hB20 (Nat.le_refl _) (Nat.lt_succ_self _) EncL.nil (Nat.le_of_ble_eq_true rfl) (fun h => h) (fun _ h => False.elim h)
 refine sd rfl (yl_assign rfl rfl (SeqR.done (tn (CW.seq (CW.seq (CW.region (sd rfl (yl_move rfl rfl (sd rfl (yl_len Tryz.un36 rfl rfl (sd rfl (yl_move rfl rfl ?_))))))))))))
 refine SeqR.done (tn (CW.block (CW.loop (fun m109 L110 w111 => ∃ (k23 : Nat) (x105 : List DRow) (A106 : Option Addr) (c107 : Nat) (u108 : Nat), m109 = p_store.length - k23 ∧ k23 ≤ p_store.length ∧ w17.heap.size ≤ w111.heap.size ∧ lkp L110 2 = some (.pointer (some ⟨b10, 0, none⟩)) ∧ lkp L110 5 = some (.slice A106 x105.length c107) ∧ lkp L110 11 = some (.slice A4 p_store.length c4) ∧ lkp L110 12 = some (.int .i64 ((p_store.length : Int))) ∧ lkp L110 13 = some (.int .i64 ((k23 : Int))) ∧ Box w111 b10 34 [.string (bs (p_t.Name)), .slice A1 p_t.Cols.length c1, .slice A2 p_t.Idxs.length c2] ∧ RdS w111 (Iv 0 w.heap.size) (RF e_Str) 1 A1 p_t.Cols.length c1 p_t.Cols ∧ RdS w111 (Iv 0 w.heap.size) (RF e_Idx) 3 A2 p_t.Idxs.length c2 p_t.Idxs ∧ OwnD w111 b16 u108 80 1 RO_Row A106 x105.length c107 x105 ∧ RdS w111 (Iv 0 w.heap.size) (RF e_Write) 3 A4 p_store.length c4 p_store ∧ Ex w w111 ∧ (b16 ≤ u108 ∧ u108 ≤ w111.heap.size) ∧ x105.length ≤ 0 + 1 * (k23 - 0) ∧ (∀ y ∈ x105, ok_Row y) ∧ loopM (B_i_Table_rowsIn_0 p_t p_store) (p_store.length - k23) k23 (x105) = loopM (B_i_Table_rowsIn_0 p_t p_store) (p_store.length - 0) 0 (([] : List DRow))) (p_store.length - 0) ?_ ?_)))
 ·exact ⟨0, ([] : List DRow), (some ⟨b16, 0, none⟩), 0, (b16 + 1), rfl, (by omega), Nat.le_refl _, rfl, rfl, rfl, rfl, rfl, (Box.ex hB14 hE21), (RdS.ex good_Str (RdS.ex good_Str h1 hE15) hE21), (RdS.ex good_Idx (RdS.ex good_Idx h2 hE15) hE21), (OwnD.empty w17 b16 (b16 + 1) 80 1 RO_Row (some ⟨b16, 0, none⟩)), (RdS.ex good_Write (RdS.ex good_Write h4 hE15) hE21), (Ex.trans (Ex.trans (Ex.refl w) hE15) hE21), (by omega), (by first | (simp; done) | (first | omega | (simp only [List.length_append, List.length_cons, List.length_nil, List.length_set, toS_length]; omega))), okE.nil, rfl⟩
 ·rintro m121 L122 w123 ⟨k23, x105, A106, c107, u108, rfl, hk124, hsz126, hl127, hl128, hl129, hl130, hl131, hf132, hf133, hf134, hf135, hf136, hf137, hu138, hln139, hok140, hI125⟩
  refine CW.sub (Sub.cons hl127 (Sub.cons hl128 (Sub.cons hl129 (Sub.cons hl130 (Sub.cons hl131 (Sub.nil _)))))) ?_
  have hf132z := Box.lt hf132
  have hf137z := Ex.size hf137
  have hbg141 := RdS.big hf136
  rcases Nat.lt_or_ge k23 p_store.length with hlt142 | hlt142
  ·refine CW.seq (CW.region (sd rfl (yl_lss rfl rfl rfl (SeqR.done (tn (CW.seq (CW.cond_t rfl (lt_t hlt142) (CW.skip (tn ?_)))))))))
   refine CW.seq (CW.block (CW.seq (CW.region ?_)))
   obtain ⟨eb143, eo143, ec143, eA143, eS143, ebl143, el143, eR143, eC143⟩ := RdS.atD hf136 d_Write (i := k23) (by first | omega | assumption)
   obtain rfl := eR143
   have eC143 : Cells w123 eb143 (eo143 + k23 * 3) [.string (bs ((p_store.getD k23 d_Write).Key)), .string (bs ((p_store.getD k23 d_Write).Val)), .bool ((p_store.getD k23 d_Write).Gone)] := eC143
   refine sd rfl (yl_indexAddrN Tryz.un36 Tryz.ty75 rfl rfl rfl eA143 (by first | omega | assumption | (simp only [IntKind.wrap_i64] at *; omega)) (sd rfl (yl_loadN (cs := [.string (bs ((p_store.getD k23 d_Write).Key)), .string (bs ((p_store.getD k23 d_Write).Val)), .bool ((p_store.getD k23 d_Write).Gone)]) Tryz.ty75 rfl rfl eC143 rfl (sd rfl (yl_alloc Tryz.ty75 (cs := [.string (bs (([] : Str))), .string (bs (([] : Str))), .bool (false)]) rfl rfl ?_)))))
   intro b144 w145 hs146 hz147 hB148 hE149
   refine SeqR.u rfl rfl (yl_store (vs := [.string (bs ((p_store.getD k23 d_Write).Key)), .string (bs ((p_store.getD k23 d_Write).Val)), .bool ((p_store.getD k23 d_Write).Gone)]) Tryz.ty75 rfl rfl rfl rfl rfl rfl hB148 (Nat.le_of_ble_eq_true rfl) ?_)
   intro w150 hB151 hO152
   have hB151 : Box w150 b144 75 [.string (bs ((p_store.getD k23 d_Write).Key)), .string (bs ((p_store.getD k23 d_Write).Val)), .bool ((p_store.getD k23 d_Write).Gone)] := hB151
   have hO152z := hO152.size
   refine SeqR.done (tn (CW.seq (CW.region ?_)))
   have q154 := Box.only (Box.ex hf132 hE149) hO152 (by omega)
   refine sd rfl (yl_loadN (cs := [.string (bs (p_t.Name)), .slice A1 p_t.Cols.length c1, .slice A2 p_t.Idxs.length c2]) Tryz.ty34 rfl rfl (q154.cells (n := 3) rfl) rfl (sd rfl (yl_loadN (cs := [.string (bs ((p_store.getD k23 d_Write).Key)), .string (bs ((p_store.getD k23 d_Write).Val)), .bool ((p_store.getD k23 d_Write).Gone)]) Tryz.ty75 rfl rfl (hB151.cells (n := 3) rfl) rfl ?_)))
   have q156 := RdS.only good_Str (RdS.ex good_Str hf133 hE149) hO152 (by simp only [Iv]; omega)
   have q158 := RdS.only good_Idx (RdS.ex good_Idx hf134 hE149) hO152 (by simp only [Iv]; omega)
   refine sd rfl (yl_call Tryz.en71 rfl (opvs_cons rfl (opvs_cons rfl opvs_nil)) (Cal.mono (c_i_Table_readRow p_t (p_store.getD k23 d_Write) (RdS.up q156 good_Str) (RdS.up q158 good_Idx) o3 (okL.getD o5 ok_d_Write _) (by first | omega | assumption | (simp only [IntKind.wrap_i64] at *; omega))) ?_))
   rintro v162 w159 ⟨A160, c160, lo160, hi160, rfl, h160, ho161, hrn164, hE163⟩
   have hE163z := Ex.size hE163
   refine sd rfl (yl_move rfl rfl (sd rfl (yl_extract rfl rfl rfl (sd rfl (yl_extract rfl rfl rfl (sd rfl (yl_alloc Tryz.ty80 (cs := [.slice none 0 0]) rfl rfl ?_)))))))
   intro b165 w166 hs167 hz168 hB169 hE170
   refine SeqR.u rfl rfl (yl_store (vs := [.slice A160 (((i_Table_readRow p_t (p_store.getD k23 d_Write)).1.Vals).length) c160]) Tryz.ty80 rfl rfl rfl rfl rfl rfl hB169 (Nat.le_of_ble_eq_true rfl) ?_)
   intro w171 hB172 hO173
   have hB172 : Box w171 b165 80 [.slice A160 (((i_Table_readRow p_t (p_store.getD k23 d_Write)).1.Vals).length) c160] := hB172
   have hO173z := hO173.size
   refine sd rfl (yl_assign rfl rfl (SeqR.done (tn (CW.seq (CW.region (sd rfl (yl_move rfl rfl (SeqR.done (tn (bcase ((i_Table_readRow p_t (p_store.getD k23 d_Write)).2) (fun hb174 => ?_) (fun hb174 => ?_)))))))))))
   ·refine CW.cond_t rfl hb174 (CW.region (sd rfl (yl_move rfl rfl (sd rfl (yl_loadN (cs := [.slice A160 (((i_Table_readRow p_t (p_store.getD k23 d_Write)).1.Vals).length) c160]) Tryz.ty80 rfl rfl (hB172.cells (n := 1) rfl) rfl (sd rfl (yl_buildSlice (cs := [.slice A160 (((i_Table_readRow p_t (p_store.getD k23 d_Write)).1.Vals).length) c160]) Tryz.un29 Tryz.ty80 (by decide) rfl (opvs_cons rfl opvs_nil) (by kernel_rfl) ?_)))))))
    intro b175 w176 hs177 hz178 hB179 hE180
    have hO181 : OwnD w176 w150.heap.size (b175 + 1) 80 1 RO_Row (some ⟨b175, 0, none⟩) 1 1 ([(i_Table_readRow p_t (p_store.getD k23 d_Write)).1] : List DRow) := OwnD.of_box (b := b175) (xs := ([(i_Table_readRow p_t (p_store.getD k23 d_Write)).1] : List DRow)) (cells := [[.slice A160 (((i_Table_readRow p_t (p_store.getD k23 d_Write)).1.Vals).length) c160]]) (by rw [List.flatten_singleton]; exact hB179) (by omega) (Nat.lt_succ_self _) (.cons (l := w150.heap.size) (h := b175) (Nat.le_refl _) (by omega) rfl (fun k hk => by cases hk; exact .inr (Nat.le_refl _)) (mkO_Row (l := w150.heap.size) (h := b175) (OwnL.ex good_Str (OwnL.only good_Str (OwnL.ex good_Str h160 hE170) hO173 (by omega)) hE180) (by omega)) (.nil (Nat.le_succ _))) (Nat.le_of_ble_eq_true rfl)
    refine sd rfl (yl_appendD (xs := x105) (ys := ([(i_Table_readRow p_t (p_store.getD k23 d_Write)).1] : List DRow)) goodO_Row Tryz.un29 Tryz.ty80 rfl (Nat.le_of_ble_eq_true rfl) rfl rfl rfl (OwnD.ex goodO_Row (OwnD.only goodO_Row (OwnD.ex goodO_Row (OwnD.ex goodO_Row (OwnD.only goodO_Row (OwnD.ex goodO_Row hf135 hE149) hO152 (by omega)) hE163) hE170) hO173 (by omega)) hE180) hO181 (by first | omega | (simp only [List.length_append, List.length_cons, List.length_nil, List.length_take, List.length_drop, List.length_replicate, List.length_set, toS_length]; omega)) (by first | omega | (simp only [List.length_append, List.length_cons, List.length_nil, List.length_take, List.length_drop, List.length_replicate, List.length_set, toS_length]; omega)) (by omega) (by omega) (by omega) (by omega) ?_)
    intro A190 c191 w192 row193 hO194 hG195 hrg196
    have hG195z := hG195.size
    refine sd rfl (yl_assign rfl rfl (SeqR.done (bn (tn (CW.region (sd rfl (yl_inc rfl rfl rfl (by omega) (sd rfl (yl_move rfl rfl (SeqR.done (tn ?_)))))))))))
    have hB197 : B_i_Table_rowsIn_0 p_t p_store k23 (x105) = .cont ((x105 ++ ([(i_Table_readRow p_t (p_store.getD k23 d_Write)).1] : List DRow))) := by simp only [B_i_Table_rowsIn_0, hb174, cond_true, cond_false, loopE_done, loopE_ret]
    exact ⟨p_store.length - (k23 + 1), by omega, k23 + 1, (x105 ++ ([(i_Table_readRow p_t (p_store.getD k23 d_Write)).1] : List DRow)), A190, c191, w192.heap.size, rfl, hlt142, (by omega), rfl, rfl, rfl, rfl, rfl, (Box.grown (Box.ex (Box.only (Box.ex (Box.ex q154 hE163) hE170) hO173 (by omega)) hE180) hG195 (fun k hk => by have := hrg196 k hk; omega)), (RdS.grown good_Str (RdS.ex good_Str (RdS.only good_Str (RdS.ex good_Str (RdS.ex good_Str q156 hE163) hE170) hO173 (by simp only [Iv]; omega)) hE180) hG195 (fun k hk => by have := hrg196 k hk; simp only [Iv]; omega)), (RdS.grown good_Idx (RdS.ex good_Idx (RdS.only good_Idx (RdS.ex good_Idx (RdS.ex good_Idx q158 hE163) hE170) hO173 (by simp only [Iv]; omega)) hE180) hG195 (fun k hk => by have := hrg196 k hk; simp only [Iv]; omega)), hO194, (RdS.grown good_Write (RdS.ex good_Write (RdS.only good_Write (RdS.ex good_Write (RdS.ex good_Write (RdS.only good_Write (RdS.ex good_Write hf136 hE149) hO152 (by simp only [Iv]; omega)) hE163) hE170) hO173 (by simp only [Iv]; omega)) hE180) hG195 (fun k hk => by have := hrg196 k hk; simp only [Iv]; omega)), (Below.grown (Ex.trans (Below.only (Ex.trans (Ex.trans (Below.only (Ex.trans hf137 hE149) hO152 (by omega)) hE163) hE170) hO173 (by omega)) hE180) hG195 (by omega) (fun k hk => by have := hrg196 k hk; omega)), (by omega), (by first | omega | (simp only [List.length_append, List.length_cons, List.length_nil, List.length_set, toS_length]; omega)), (okE.append hok140 ((okL.mk (Nat.le_of_ble_eq_true rfl) (okE.cons ho161 okE.nil))).2), (loopM.cont hlt142 hB197).symm.trans hI125⟩
   ·refine CW.cond_f rfl hb174 (CW.skip (bn (tn (CW.region (sd rfl (yl_inc rfl rfl rfl (by omega) (sd rfl (yl_move rfl rfl (SeqR.done (tn ?_))))))))))
    have hB227 : B_i_Table_rowsIn_0 p_t p_store k23 (x105) = .cont (x105) := by simp only [B_i_Table_rowsIn_0, hb174, cond_true, cond_false, loopE_done, loopE_ret]
    exact ⟨p_store.length - (k23 + 1), by omega, k23 + 1, x105, A106, c107, u108, rfl, hlt142, (by omega), rfl, rfl, rfl, rfl, rfl, (Box.only (Box.ex (Box.ex q154 hE163) hE170) hO173 (by omega)), (RdS.only good_Str (RdS.ex good_Str (RdS.ex good_Str q156 hE163) hE170) hO173 (by simp only [Iv]; omega)), (RdS.only good_Idx (RdS.ex good_Idx (RdS.ex good_Idx q158 hE163) hE170) hO173 (by simp only [Iv]; omega)), (OwnD.only goodO_Row (OwnD.ex goodO_Row (OwnD.ex goodO_Row (OwnD.only goodO_Row (OwnD.ex goodO_Row hf135 hE149) hO152 (by omega)) hE163) hE170) hO173 (by omega)), (RdS.only good_Write (RdS.ex good_Write (RdS.ex good_Write (RdS.only good_Write (RdS.ex good_Write hf136 hE149) hO152 (by simp only [Iv]; omega)) hE163) hE170) hO173 (by simp only [Iv]; omega)), (Below.only (Ex.trans (Ex.trans (Below.only (Ex.trans hf137 hE149) hO152 (by omega)) hE163) hE170) hO173 (by omega)), (by omega), (by first | omega | (simp only [List.length_append, List.length_cons, List.length_nil, List.length_set, toS_length]; omega)), hok140, (loopM.cont hlt142 hB227).symm.trans hI125⟩
  ·refine CW.seq (CW.region (sd rfl (yl_lss rfl rfl rfl (SeqR.done (tn (CW.seq (CW.cond_f rfl (lt_f hlt142) (CW.exit (tx ?_)))))))))
   refine tx ?_
   have hL252 : loopM (B_i_Table_rowsIn_0 p_t p_store) (p_store.length - 0) 0 (([] : List DRow)) = .done (x105) := hI125.symm.trans (loopM.stop hlt142)
   refine bx (tn (CW.seq (CW.region (sd rfl (yl_move rfl rfl (sd rfl (yl_assign rfl rfl (SeqR.done (tn (CW.ret ?_))))))))))
   refine rr rfl (.cons rfl .nil) ?_
   have hM253 : (i_Table_rowsIn p_t p_store) = (x105) := by simp only [i_Table_rowsIn, hL252, cond_true, cond_false, loopE_done, loopE_ret]
   rw [hM253]
   exact ⟨A106, c107, b16, u108, rfl, hf135, (okL.mk (xs := x105) (by first | omega | (simp only [List.length_append, List.length_cons, List.length_nil, List.length_take, List.length_drop, List.length_replicate, List.length_set, toS_length]; omega)) hok140), (by omega), hf137⟩
set_option maxRecDepth 100000 in
set_option maxHeartbeats 2000000 in
theorem c_i_RowsIn {A1 : Option Addr} {c1 : Nat} {A2 : Option Addr} {c2 : Nat} {A4 : Option Addr} {c4 : Nat} {w : World} (p_t : DTable) (p_store : List DWrite) (h1 : RdS w (Iv 0 w.heap.size) (RF e_Str) 1 A1 p_t.Cols.length c1 p_t.Cols) (h2 : RdS w (Iv 0 w.heap.size) (RF e_Idx) 3 A2 p_t.Idxs.length c2 p_t.Idxs) (h4 : RdS w (Iv 0 w.heap.size) (RF e_Write) 3 A4 p_store.length c4 p_store) (o3 : ok_Table p_t) (o5 : (okL ok_Write) p_store) : Cal Tryz.prog 10 #[.agg #[.string (bs (p_t.Name)), .slice A1 p_t.Cols.length c1, .slice A2 p_t.Idxs.length c2], .slice A4 p_store.length c4] w fun v w' => ∃ A_1 c_1 lo_1 hi_1, v = .tuple #[.slice A_1 (((i_RowsIn p_t p_store).1).length) c_1, .bool ((i_RowsIn p_t p_store).2)] ∧ OwnD w' lo_1 hi_1 80 1 RO_Row A_1 (((i_RowsIn p_t p_store).1).length) c_1 ((i_RowsIn p_t p_store).1) ∧ (okL ok_Row) ((i_RowsIn p_t p_store).1) ∧ (w.heap.size ≤ lo_1 ∧ lo_1 ≤ hi_1 ∧ hi_1 ≤ w'.heap.size) ∧ Ex w w' := by
 have hol6 : p_t.Name.length ≤ 1073741824 := o3.1
 have hol7 := o3.2.1.1
 have hol8 := o3.2.2.1
 have hol9 := o5.1
 refine Cal.of (vs := [.agg #[.string (bs (p_t.Name)), .slice A1 p_t.Cols.length c1, .slice A2 p_t.Idxs.length c2], .slice A4 p_store.length c4]) Tryz.func10 rfl Tryz.ntmps10 rfl (CW.seq (CW.region (sd rfl (yl_box (cs := [.string (bs (p_t.Name)), .slice A1 p_t.Cols.length c1, .slice A2 p_t.Idxs.length c2]) rfl rfl rfl ?_))))
 intro b10 w11 hs12 hz13 hB14 hE15
 refine sd rfl (yl_assign rfl rfl (sd rfl (yl_assign rfl rfl (SeqR.done (tn (CW.seq (CW.seq (CW.region (sd rfl (yl_loadN (cs := [.string (bs (p_t.Name)), .slice A1 p_t.Cols.length c1, .slice A2 p_t.Idxs.length c2]) Tryz.ty34 rfl rfl (hB14.cells (n := 3) rfl) rfl ?_))))))))))
 have q16 := RdS.ex good_Str h1 hE15
 have q17 := RdS.ex good_Idx h2 hE15
 refine sd rfl (yl_call Tryz.en32 rfl (opvs_cons rfl opvs_nil) (Cal.mono (c_i_GoodTable p_t (RdS.up q16 good_Str) (RdS.up q17 good_Idx) o3) ?_))
 rintro v19 w18 ⟨rfl, hE20⟩
 have hE20z := Ex.size hE20
 refine sd rfl (yl_not rfl rfl (sd rfl (yl_move rfl rfl (bcase (i_GoodTable p_t) (fun hb21 => ?_) (fun hb21 => ?_)))))
 ·have hb21p := f_i_GoodTable hb21
  refine sy rfl rfl (not_t hb21) (yl_move rfl rfl ?_)
  have q23 := RdS.ex good_Write (RdS.ex good_Write h4 hE15) hE20
  refine sy rfl rfl (not_t hb21) (yl_call Tryz.en33 rfl (opvs_cons rfl opvs_nil) (Cal.mono (c_i_isRows p_store (RdS.up q23 good_Write) o5) ?_))
  rintro v25 w24 ⟨rfl, hE26⟩
  have hE26z := Ex.size hE26
  refine sy rfl rfl (not_t hb21) (yl_not rfl rfl (sd rfl (yl_pick_f rfl rfl (not_t hb21) rfl (SeqR.done (tn (bcase (i_isRows p_store) (fun hb27 => ?_) (fun hb27 => ?_)))))))
  ·refine CW.cond_f rfl (not_t hb27) (CW.skip (tn (CW.seq (CW.region (sd rfl (yl_loadN (cs := [.string (bs (p_t.Name)), .slice A1 p_t.Cols.length c1, .slice A2 p_t.Idxs.length c2]) Tryz.ty34 rfl rfl ((Box.ex (Box.ex hB14 hE20) hE26).cells (n := 3) rfl) rfl (sd rfl (yl_move rfl rfl (sd rfl (yl_call Tryz.en34 rfl (opvs_cons rfl (opvs_cons rfl opvs_nil)) (Cal.mono (c_i_Table_rowsIn p_t p_store (RdS.up (RdS.ex good_Str (RdS.ex good_Str q16 hE20) hE26) good_Str) (RdS.up (RdS.ex good_Idx (RdS.ex good_Idx q17 hE20) hE26) good_Idx) (RdS.up (RdS.ex good_Write q23 hE26) good_Write) o3 o5 (GoodTable_eq _ ▸ hb21)) ?_)))))))))))
   rintro v38 w35 ⟨A36, c36, lo36, hi36, rfl, h36, ho37, hrn40, hE39⟩
   have hE39z := Ex.size hE39
   refine sd rfl (yl_assign rfl rfl (sd rfl (yl_assign rfl rfl (SeqR.done (tn (CW.ret (rr rfl (.cons rfl (.cons rfl .nil)) ?_)))))))
   have hM41 : (i_RowsIn p_t p_store) = (((i_Table_rowsIn p_t p_store), true)) := by simp only [i_RowsIn, hb21, hb27, cond_true, cond_false, loopE_done, loopE_ret]
   rw [hM41]
   exact ⟨A36, c36, lo36, hi36, rfl, h36, ho37, (by omega), (Ex.trans (Ex.trans (Ex.trans (Ex.trans (Ex.refl w) hE15) hE20) hE26) hE39)⟩
  ·refine CW.cond_t rfl (not_f hb27) (CW.seq (CW.region (sd rfl (yl_assign rfl rfl (sd rfl (yl_assign rfl rfl (SeqR.done (tn (CW.ret (tr ?_))))))))))
   refine rr rfl (.cons rfl (.cons rfl .nil)) ?_
   have hM46 : (i_RowsIn p_t p_store) = ((([] : List DRow), false)) := by simp only [i_RowsIn, hb21, hb27, cond_true, cond_false, loopE_done, loopE_ret]
   rw [hM46]
   exact ⟨none, 0, w24.heap.size, w24.heap.size, rfl, (OwnD.nil _ _ _ _ _ _), (okL.nil _), (by omega), (Ex.trans (Ex.trans (Ex.trans (Ex.refl w) hE15) hE20) hE26)⟩
 ·refine sz rfl rfl (not_f hb21) (sz rfl rfl (not_f hb21) (sz rfl rfl (not_f hb21) (sd rfl (yl_pick_t rfl rfl (not_f hb21) rfl (SeqR.done (tn (CW.cond_t rfl rfl (CW.seq (CW.region ?_)))))))))
  refine sd rfl (yl_assign rfl rfl (sd rfl (yl_assign rfl rfl (SeqR.done (tn (CW.ret (tr (rr rfl (.cons rfl (.cons rfl .nil)) ?_))))))))
  have hM50 : (i_RowsIn p_t p_store) = ((([] : List DRow), false)) := by simp only [i_RowsIn, hb21, cond_true, cond_false, loopE_done, loopE_ret]
  rw [hM50]
  exact ⟨none, 0, w18.heap.size, w18.heap.size, rfl, (OwnD.nil _ _ _ _ _ _), (okL.nil _), (by omega), (Ex.trans (Ex.trans (Ex.refl w) hE15) hE20)⟩
set_option maxRecDepth 100000 in
set_option maxHeartbeats 2000000 in
theorem c_l_eqStringS {A1 : Option Addr} {c1 : Nat} {A2 : Option Addr} {c2 : Nat} {w : World} (p_a : List Str) (p_b : List Str) (h1 : RdS w (Iv 0 w.heap.size) (RF e_Str) 1 A1 p_a.length c1 p_a) (h2 : RdS w (Iv 0 w.heap.size) (RF e_Str) 1 A2 p_b.length c2 p_b) : Cal Tryz.prog 36 #[.slice A1 p_a.length c1, .slice A2 p_b.length c2] w fun v w' => v = .bool ((l_eqStringS p_a p_b)) ∧ Ex w w' := by
 refine Cal.of (vs := [.slice A1 p_a.length c1, .slice A2 p_b.length c2]) Tryz.func36 rfl Tryz.ntmps36 rfl (CW.seq (CW.region (sd rfl (yl_assign rfl rfl (SeqR.done (tn (CW.seq (CW.seq (CW.region ?_)))))))))
 refine sd rfl (yl_move rfl rfl (sd rfl (yl_len Tryz.un22 rfl rfl (sd rfl (yl_move rfl rfl (sd rfl (yl_len Tryz.un22 rfl rfl (sd rfl (yl_neq rfl rfl rfl (SeqR.done (tn (bcase (decide ((p_a.length : Int) = (p_b.length : Int))) (fun hb3 => ?_) (fun hb3 => ?_)))))))))))))
 ·have hb3p := dec_t hb3
  refine CW.cond_f rfl (not_t hb3) (CW.skip (tn (CW.seq (CW.seq (CW.region (sd rfl (yl_assign rfl rfl (SeqR.done (tn ?_)))))))))
  refine CW.block (CW.loop (fun m5 L6 w7 => ∃ (k4 : Nat), m5 = p_a.length - k4 ∧ k4 ≤ p_a.length ∧ w.heap.size ≤ w7.heap.size ∧ lkp L6 0 = some (.slice A1 p_a.length c1) ∧ lkp L6 1 = some (.slice A2 p_b.length c2) ∧ lkp L6 5 = some (.int .i64 ((k4 : Int))) ∧ RdS w7 (Iv 0 w.heap.size) (RF e_Str) 1 A1 p_a.length c1 p_a ∧ RdS w7 (Iv 0 w.heap.size) (RF e_Str) 1 A2 p_b.length c2 p_b ∧ Ex w w7 ∧ loopM (B_l_eqStringS_0 p_a p_b) (p_a.length - k4) k4 () = loopM (B_l_eqStringS_0 p_a p_b) (p_a.length - 0) 0 ()) (p_a.length - 0) ?_ ?_)
  ·exact ⟨0, rfl, (by omega), Nat.le_refl _, rfl, rfl, rfl, h1, h2, (Ex.refl w), rfl⟩
  ·rintro m8 L9 w10 ⟨k4, rfl, hk11, hsz13, hl14, hl15, hl16, hf17, hf18, hf19, hI12⟩
   refine CW.sub (Sub.cons hl14 (Sub.cons hl15 (Sub.cons hl16 (Sub.nil _)))) ?_
   have hf19z := Ex.size hf19
   have hbg20 := RdS.big hf17
   rcases Nat.lt_or_ge k4 p_a.length with hlt21 | hlt21
   ·refine CW.seq (CW.seq (CW.region (sd rfl (yl_move rfl rfl (sd rfl (yl_move rfl rfl (sd rfl (yl_len Tryz.un22 rfl rfl (sd rfl (yl_lss rfl rfl rfl (SeqR.done (tn ?_))))))))))))
    refine CW.cond_t rfl (lt_t hlt21) (CW.skip (tn (CW.seq (CW.block (CW.seq ?_)))))
    obtain ⟨eb22, eo22, ec22, eA22, eS22, ebl22, el22, eR22, eC22⟩ := RdS.atD hf17 d_Str (i := k4) (by first | omega | assumption)
    obtain rfl := eR22
    have eC22 : Cells w10 eb22 (eo22 + k4 * 1) [.string (bs ((p_a.getD k4 d_Str)))] := eC22
    obtain ⟨eb23, eo23, ec23, eA23, eS23, ebl23, el23, eR23, eC23⟩ := RdS.atD hf18 d_Str (i := k4) (by first | omega | assumption)
    obtain rfl := eR23
    have eC23 : Cells w10 eb23 (eo23 + k4 * 1) [.string (bs ((p_b.getD k4 d_Str)))] := eC23
    refine CW.drawsI 9 (vgetI [DetI (.slice A1 p_a.length c1), DetI (.int .i64 ((k4 : Int))), DetI (.pointer (some ⟨eb22, eo22 + k4 * 1, none⟩)), DetI (.string (bs ((p_a.getD k4 d_Str)))), DetI (.slice A2 p_b.length c2), DetI (.int .i64 ((k4 : Int))), DetI (.pointer (some ⟨eb23, eo23 + k4 * 1, none⟩)), DetI (.string (bs ((p_b.getD k4 d_Str)))), DetI (.bool (!((p_a.getD k4 d_Str) == (p_b.getD k4 d_Str))))]) Tryz.follows rfl rfl rfl rfl rfl rfl (vgetI_stable ⟨StableI.det _, StableI.det _, StableI.det _, StableI.det _, StableI.det _, StableI.det _, StableI.det _, StableI.det _, StableI.det _, trivial⟩) ⟨?_, ?_, ?_, ?_, ?_, ?_, ?_, ?_, ?_, trivial⟩ ?_
    ·exact fun _ _ h => os rfl ((yl_move rfl (h.old 0 _ rfl rfl) kI))
    ·exact fun _ _ h => os rfl ((yl_move rfl (h.old 5 _ rfl rfl) kI))
    ·intro L34 w35 hi36
     have hE37 := hi36.ex
     have hE37z := Ex.size hE37
     exact os rfl ((yl_indexAddrN Tryz.un22 Tryz.ty9 rfl (hi36.dt 0 17 rfl rfl rfl) (hi36.dt 1 18 rfl rfl rfl) eA22 (by first | omega | assumption | (simp only [IntKind.wrap_i64] at *; omega)) kI))
    ·exact fun _ _ h => os rfl ((yl_load1 Tryz.ty9 rfl (h.dt 2 19 rfl rfl rfl) ((Cells.ex eC22 h.ex) 0 _ rfl) kI))
    ·exact fun _ _ h => os rfl ((yl_move rfl (h.old 1 _ rfl rfl) kI))
    ·exact fun _ _ h => os rfl ((yl_move rfl (h.old 5 _ rfl rfl) kI))
    ·intro L56 w57 hi58
     have hE59 := hi58.ex
     have hE59z := Ex.size hE59
     exact os rfl ((yl_indexAddrN Tryz.un22 Tryz.ty9 rfl (hi58.dt 4 21 rfl rfl rfl) (hi58.dt 5 22 rfl rfl rfl) eA23 (by first | omega | assumption | (simp only [IntKind.wrap_i64] at *; omega)) kI))
    ·exact fun _ _ h => os rfl ((yl_load1 Tryz.ty9 rfl (h.dt 6 23 rfl rfl rfl) ((Cells.ex eC23 h.ex) 0 _ rfl) kI))
    ·exact fun _ _ h => os rfl ((yl_sneq (a := (p_a.getD k4 d_Str)) (b := (p_b.getD k4 d_Str)) rfl (h.dt 3 20 rfl rfl rfl) (h.dt 7 24 rfl rfl rfl) kI))
    ·intro fl77 fh78 L74 w75 hp76
     have hE79 := hp76.ex
     have hE79z := Ex.size hE79
     refine SeqR.done (tn (CW.sub (Sub.cons (d := 0) (hp76.old 0 _ rfl rfl) (Sub.cons (d := 1) (hp76.old 1 _ rfl rfl) (Sub.cons (d := 5) (hp76.old 5 _ rfl rfl) (Sub.cons (d := 25) (hp76.nt 8 25 rfl rfl rfl) (Sub.nil _))))) (bcase ((p_a.getD k4 d_Str) == (p_b.getD k4 d_Str)) (fun hb84 => ?_) (fun hb84 => ?_))))
     ·refine CW.cond_f rfl (not_t hb84) (CW.skip (bn (tn (CW.region (sd rfl (yl_move rfl rfl (sd rfl (yl_inc rfl rfl rfl (by omega) (sd rfl (yl_assign rfl rfl (SeqR.done ?_)))))))))))
      refine tn ?_
      have hB85 : B_l_eqStringS_0 p_a p_b k4 () = .cont () := by simp only [B_l_eqStringS_0, hb3, hb84, cond_true, cond_false, loopE_done, loopE_ret]
      exact ⟨p_a.length - (k4 + 1), by omega, k4 + 1, rfl, hlt21, (by omega), rfl, rfl, rfl, (RdS.ex good_Str hf17 hE79), (RdS.ex good_Str hf18 hE79), (Ex.trans hf19 hE79), (loopM.cont hlt21 hB85).symm.trans hI12⟩
     ·refine CW.cond_t rfl (not_f hb84) (CW.seq (CW.region (sd rfl (yl_assign rfl rfl (SeqR.done (tn (CW.ret (br (tr ?_)))))))))
      refine tr ?_
      have hB90 : B_l_eqStringS_0 p_a p_b k4 () = .ret false := by simp only [B_l_eqStringS_0, hb3, hb84, cond_true, cond_false, loopE_done, loopE_ret]
      have hL89 : loopM (B_l_eqStringS_0 p_a p_b) (p_a.length - 0) 0 () = .ret false := hI12.symm.trans (loopM.ret hlt21 hB90)
      refine br (tr (rr rfl (.cons rfl .nil) ?_))
      have hM91 : (l_eqStringS p_a p_b) = (false) := by simp only [l_eqStringS, hb3, hb84, hL89, cond_true, cond_false, loopE_done, loopE_ret]
      rw [hM91]
      exact ⟨rfl, (Ex.trans hf19 hE79)⟩
   ·refine CW.seq (CW.seq (CW.region (sd rfl (yl_move rfl rfl (sd rfl (yl_move rfl rfl (sd rfl (yl_len Tryz.un22 rfl rfl (sd rfl (yl_lss rfl rfl rfl (SeqR.done (tn ?_))))))))))))
    refine CW.cond_f rfl (lt_f hlt21) (CW.exit (tx (tx ?_)))
    have hL93 : loopM (B_l_eqStringS_0 p_a p_b) (p_a.length - 0) 0 () = .done () := hI12.symm.trans (loopM.stop hlt21)
    refine bx (tn (CW.seq (CW.region (sd rfl (yl_assign rfl rfl (SeqR.done (tn (CW.ret (rr rfl (.cons rfl .nil) ?_)))))))))
    have hM94 : (l_eqStringS p_a p_b) = (true) := by simp only [l_eqStringS, hb3, hL93, cond_true, cond_false, loopE_done, loopE_ret]
    rw [hM94]
    exact ⟨rfl, hf19⟩
 ·have hb3p := dec_f hb3
  refine CW.cond_t rfl (not_f hb3) (CW.seq (CW.region (sd rfl (yl_assign rfl rfl (SeqR.done (tn (CW.ret (tr (rr rfl (.cons rfl .nil) ?_)))))))))
  have hM95 : (l_eqStringS p_a p_b) = (false) := by simp only [l_eqStringS, hb3, cond_true, cond_false, loopE_done, loopE_ret]
  rw [hM95]
  exact ⟨rfl, (Ex.refl w)⟩
set_option maxRecDepth 100000 in
set_option maxHeartbeats 2000000 in
theorem c_l_eqRow {A1 : Option Addr} {c1 : Nat} {A2 : Option Addr} {c2 : Nat} {w : World} (p_a : DRow) (p_b : DRow) (h1 : RdS w (Iv 0 w.heap.size) (RF e_Str) 1 A1 p_a.Vals.length c1 p_a.Vals) (h2 : RdS w (Iv 0 w.heap.size) (RF e_Str) 1 A2 p_b.Vals.length c2 p_b.Vals) : Cal Tryz.prog 35 #[.agg #[.slice A1 p_a.Vals.length c1], .agg #[.slice A2 p_b.Vals.length c2]] w fun v w' => v = .bool ((l_eqRow p_a p_b)) ∧ Ex w w' := by
 refine Cal.of (vs := [.agg #[.slice A1 p_a.Vals.length c1], .agg #[.slice A2 p_b.Vals.length c2]]) Tryz.func35 rfl Tryz.ntmps35 rfl (CW.seq (CW.region (sd rfl (yl_box (cs := [.slice A1 p_a.Vals.length c1]) rfl rfl rfl ?_))))
 intro b3 w4 hs5 hz6 hB7 hE8
 refine sd rfl (yl_box (cs := [.slice A2 p_b.Vals.length c2]) rfl rfl rfl ?_)
 intro b9 w10 hs11 hz12 hB13 hE14
 refine sd rfl (yl_assign rfl rfl (SeqR.done (tn (CW.seq (CW.seq (CW.region (sd rfl (yl_fieldAddr Tryz.fd80_0 rfl rfl (sd rfl (yl_load1 Tryz.ty22 rfl rfl (((Box.ex hB7 hE14).cell 0).trans rfl) (sd rfl (yl_fieldAddr Tryz.fd80_0 rfl rfl ?_))))))))))))
 refine sd rfl (yl_load1 Tryz.ty22 rfl rfl ((hB13.cell 0).trans rfl) (sd rfl (yl_call Tryz.en36 rfl (opvs_cons rfl (opvs_cons rfl opvs_nil)) (Cal.mono (c_l_eqStringS p_a.Vals p_b.Vals (RdS.up (RdS.ex good_Str (RdS.ex good_Str h1 hE8) hE14) good_Str) (RdS.up (RdS.ex good_Str (RdS.ex good_Str h2 hE8) hE14) good_Str)) ?_))))
 rintro v21 w20 ⟨rfl, hE22⟩
 have hE22z := Ex.size hE22
 refine sd rfl (yl_not rfl rfl (SeqR.done (tn (bcase (l_eqStringS p_a.Vals p_b.Vals) (fun hb23 => ?_) (fun hb23 => ?_)))))
 ·refine CW.cond_f rfl (not_t hb23) (CW.skip (tn (CW.seq (CW.region (sd rfl (yl_assign rfl rfl (SeqR.done (tn (CW.ret ?_)))))))))
  refine rr rfl (.cons rfl .nil) ?_
  have hM24 : (l_eqRow p_a p_b) = (true) := by simp only [l_eqRow, hb23, cond_true, cond_false, loopE_done, loopE_ret]
  rw [hM24]
  exact ⟨rfl, (Ex.trans (Ex.trans (Ex.trans (Ex.refl w) hE8) hE14) hE22)⟩
 ·refine CW.cond_t rfl (not_f hb23) (CW.seq (CW.region (sd rfl (yl_assign rfl rfl (SeqR.done (tn (CW.ret (tr (rr rfl (.cons rfl .nil) ?_)))))))))
  have hM28 : (l_eqRow p_a p_b) = (false) := by simp only [l_eqRow, hb23, cond_true, cond_false, loopE_done, loopE_ret]
  rw [hM28]
  exact ⟨rfl, (Ex.trans (Ex.trans (Ex.trans (Ex.refl w) hE8) hE14) hE22)⟩
set_option maxRecDepth 100000 in
set_option maxHeartbeats 2000000 in
theorem c_l_eqRowS {A1 : Option Addr} {c1 : Nat} {A2 : Option Addr} {c2 : Nat} {w : World} (p_a : List DRow) (p_b : List DRow) (h1 : RdS w (Iv 0 w.heap.size) R_Row 1 A1 p_a.length c1 p_a) (h2 : RdS w (Iv 0 w.heap.size) R_Row 1 A2 p_b.length c2 p_b) : Cal Tryz.prog 11 #[.slice A1 p_a.length c1, .slice A2 p_b.length c2] w fun v w' => v = .bool ((l_eqRowS p_a p_b)) ∧ Ex w w' := by
 refine Cal.of (vs := [.slice A1 p_a.length c1, .slice A2 p_b.length c2]) Tryz.func11 rfl Tryz.ntmps11 rfl (CW.seq (CW.region (sd rfl (yl_assign rfl rfl (SeqR.done (tn (CW.seq (CW.seq (CW.region ?_)))))))))
 refine sd rfl (yl_move rfl rfl (sd rfl (yl_len Tryz.un29 rfl rfl (sd rfl (yl_move rfl rfl (sd rfl (yl_len Tryz.un29 rfl rfl (sd rfl (yl_neq rfl rfl rfl (SeqR.done (tn (bcase (decide ((p_a.length : Int) = (p_b.length : Int))) (fun hb3 => ?_) (fun hb3 => ?_)))))))))))))
 ·have hb3p := dec_t hb3
  refine CW.cond_f rfl (not_t hb3) (CW.skip (tn (CW.seq (CW.seq (CW.region (sd rfl (yl_assign rfl rfl (SeqR.done (tn ?_)))))))))
  refine CW.block (CW.loop (fun m5 L6 w7 => ∃ (k4 : Nat), m5 = p_a.length - k4 ∧ k4 ≤ p_a.length ∧ w.heap.size ≤ w7.heap.size ∧ lkp L6 0 = some (.slice A1 p_a.length c1) ∧ lkp L6 1 = some (.slice A2 p_b.length c2) ∧ lkp L6 5 = some (.int .i64 ((k4 : Int))) ∧ RdS w7 (Iv 0 w.heap.size) R_Row 1 A1 p_a.length c1 p_a ∧ RdS w7 (Iv 0 w.heap.size) R_Row 1 A2 p_b.length c2 p_b ∧ Ex w w7 ∧ loopM (B_l_eqRowS_0 p_a p_b) (p_a.length - k4) k4 () = loopM (B_l_eqRowS_0 p_a p_b) (p_a.length - 0) 0 ()) (p_a.length - 0) ?_ ?_)
  ·exact ⟨0, rfl, (by omega), Nat.le_refl _, rfl, rfl, rfl, h1, h2, (Ex.refl w), rfl⟩
  ·rintro m8 L9 w10 ⟨k4, rfl, hk11, hsz13, hl14, hl15, hl16, hf17, hf18, hf19, hI12⟩
   refine CW.sub (Sub.cons hl14 (Sub.cons hl15 (Sub.cons hl16 (Sub.nil _)))) ?_
   have hf19z := Ex.size hf19
   have hbg20 := RdS.big hf17
   rcases Nat.lt_or_ge k4 p_a.length with hlt21 | hlt21
   ·refine CW.seq (CW.seq (CW.region (sd rfl (yl_move rfl rfl (sd rfl (yl_move rfl rfl (sd rfl (yl_len Tryz.un29 rfl rfl (sd rfl (yl_lss rfl rfl rfl (SeqR.done (tn ?_))))))))))))
    refine CW.cond_t rfl (lt_t hlt21) (CW.skip (tn (CW.seq (CW.block (CW.seq ?_)))))
    obtain ⟨eb22, eo22, ec22, eA22, eS22, ebl22, el22, eR22, eC22⟩ := RdS.atD hf17 d_Row (i := k4) (by first | omega | assumption)
    obtain ⟨A23, c23, rfl, h23⟩ := eR22
    have eC22 : Cells w10 eb22 (eo22 + k4 * 1) [.slice A23 (((p_a.getD k4 d_Row).Vals).length) c23] := eC22
    obtain ⟨eb24, eo24, ec24, eA24, eS24, ebl24, el24, eR24, eC24⟩ := RdS.atD hf18 d_Row (i := k4) (by first | omega | assumption)
    obtain ⟨A25, c25, rfl, h25⟩ := eR24
    have eC24 : Cells w10 eb24 (eo24 + k4 * 1) [.slice A25 (((p_b.getD k4 d_Row).Vals).length) c25] := eC24
    refine CW.drawsI 10 (vgetI [DetI (.slice A1 p_a.length c1), DetI (.int .i64 ((k4 : Int))), DetI (.pointer (some ⟨eb22, eo22 + k4 * 1, none⟩)), DetI (.agg #[.slice A23 (((p_a.getD k4 d_Row).Vals).length) c23]), DetI (.slice A2 p_b.length c2), DetI (.int .i64 ((k4 : Int))), DetI (.pointer (some ⟨eb24, eo24 + k4 * 1, none⟩)), DetI (.agg #[.slice A25 (((p_b.getD k4 d_Row).Vals).length) c25]), DetI (.bool ((l_eqRow (p_a.getD k4 d_Row) (p_b.getD k4 d_Row)))), DetI (.bool (!(l_eqRow (p_a.getD k4 d_Row) (p_b.getD k4 d_Row))))]) Tryz.follows rfl rfl rfl rfl rfl rfl (vgetI_stable ⟨StableI.det _, StableI.det _, StableI.det _, StableI.det _, StableI.det _, StableI.det _, StableI.det _, StableI.det _, StableI.det _, StableI.det _, trivial⟩) ⟨?_, ?_, ?_, ?_, ?_, ?_, ?_, ?_, ?_, ?_, trivial⟩ ?_
    ·exact fun _ _ h => os rfl ((yl_move rfl (h.old 0 _ rfl rfl) kI))
    ·exact fun _ _ h => os rfl ((yl_move rfl (h.old 5 _ rfl rfl) kI))
    ·intro L37 w38 hi39
     have hE40 := hi39.ex
     have hE40z := Ex.size hE40
     exact os rfl ((yl_indexAddrN Tryz.un29 Tryz.ty80 rfl (hi39.dt 0 17 rfl rfl rfl) (hi39.dt 1 18 rfl rfl rfl) eA22 (by first | omega | assumption | (simp only [IntKind.wrap_i64] at *; omega)) kI))
    ·exact fun _ _ h => os rfl ((yl_loadN (cs := [.slice A23 (((p_a.getD k4 d_Row).Vals).length) c23]) Tryz.ty80 rfl (h.dt 2 19 rfl rfl rfl) (Cells.ex eC22 h.ex) rfl kI))
    ·exact fun _ _ h => os rfl ((yl_move rfl (h.old 1 _ rfl rfl) kI))
    ·exact fun _ _ h => os rfl ((yl_move rfl (h.old 5 _ rfl rfl) kI))
    ·intro L59 w60 hi61
     have hE62 := hi61.ex
     have hE62z := Ex.size hE62
     exact os rfl ((yl_indexAddrN Tryz.un29 Tryz.ty80 rfl (hi61.dt 4 21 rfl rfl rfl) (hi61.dt 5 22 rfl rfl rfl) eA24 (by first | omega | assumption | (simp only [IntKind.wrap_i64] at *; omega)) kI))
    ·exact fun _ _ h => os rfl ((yl_loadN (cs := [.slice A25 (((p_b.getD k4 d_Row).Vals).length) c25]) Tryz.ty80 rfl (h.dt 6 23 rfl rfl rfl) (Cells.ex eC24 h.ex) rfl kI))
    ·intro L71 w72 hi73
     have hE74 := hi73.ex
     refine OpR.op' rfl (yl_call Tryz.en35 rfl (opvs_cons (hi73.dt 3 20 rfl rfl rfl) (opvs_cons (hi73.dt 7 24 rfl rfl rfl) opvs_nil)) (Cal.mono (c_l_eqRow (p_a.getD k4 d_Row) (p_b.getD k4 d_Row) (RdS.up (RdS.ex good_Str h23 hE74) good_Str) (RdS.up (RdS.ex good_Str h25 hE74) good_Str)) ?_))
     rintro v80 w79 ⟨rfl, hE81⟩
     exact ⟨rfl, hE81⟩
    ·exact fun _ _ h => os rfl ((yl_not rfl (h.dt 8 25 rfl rfl rfl) kI))
    ·intro fl90 fh91 L87 w88 hp89
     have hE92 := hp89.ex
     have hE92z := Ex.size hE92
     refine SeqR.done (tn (CW.sub (Sub.cons (d := 0) (hp89.old 0 _ rfl rfl) (Sub.cons (d := 1) (hp89.old 1 _ rfl rfl) (Sub.cons (d := 5) (hp89.old 5 _ rfl rfl) (Sub.cons (d := 26) (hp89.nt 9 26 rfl rfl rfl) (Sub.nil _))))) (bcase (l_eqRow (p_a.getD k4 d_Row) (p_b.getD k4 d_Row)) (fun hb97 => ?_) (fun hb97 => ?_))))
     ·refine CW.cond_f rfl (not_t hb97) (CW.skip (bn (tn (CW.region (sd rfl (yl_move rfl rfl (sd rfl (yl_inc rfl rfl rfl (by omega) (sd rfl (yl_assign rfl rfl (SeqR.done ?_)))))))))))
      refine tn ?_
      have hB98 : B_l_eqRowS_0 p_a p_b k4 () = .cont () := by simp only [B_l_eqRowS_0, hb3, hb97, cond_true, cond_false, loopE_done, loopE_ret]
      exact ⟨p_a.length - (k4 + 1), by omega, k4 + 1, rfl, hlt21, (by omega), rfl, rfl, rfl, (RdS.ex good_Row hf17 hE92), (RdS.ex good_Row hf18 hE92), (Ex.trans hf19 hE92), (loopM.cont hlt21 hB98).symm.trans hI12⟩
     ·refine CW.cond_t rfl (not_f hb97) (CW.seq (CW.region (sd rfl (yl_assign rfl rfl (SeqR.done (tn (CW.ret (br (tr ?_)))))))))
      refine tr ?_
      have hB103 : B_l_eqRowS_0 p_a p_b k4 () = .ret false := by simp only [B_l_eqRowS_0, hb3, hb97, cond_true, cond_false, loopE_done, loopE_ret]
      have hL102 : loopM (B_l_eqRowS_0 p_a p_b) (p_a.length - 0) 0 () = .ret false := hI12.symm.trans (loopM.ret hlt21 hB103)
      refine br (tr (rr rfl (.cons rfl .nil) ?_))
      have hM104 : (l_eqRowS p_a p_b) = (false) := by simp only [l_eqRowS, hb3, hb97, hL102, cond_true, cond_false, loopE_done, loopE_ret]
      rw [hM104]
      exact ⟨rfl, (Ex.trans hf19 hE92)⟩
   ·refine CW.seq (CW.seq (CW.region (sd rfl (yl_move rfl rfl (sd rfl (yl_move rfl rfl (sd rfl (yl_len Tryz.un29 rfl rfl (sd rfl (yl_lss rfl rfl rfl (SeqR.done (tn ?_))))))))))))
    refine CW.cond_f rfl (lt_f hlt21) (CW.exit (tx (tx ?_)))
    have hL106 : loopM (B_l_eqRowS_0 p_a p_b) (p_a.length - 0) 0 () = .done () := hI12.symm.trans (loopM.stop hlt21)
    refine bx (tn (CW.seq (CW.region (sd rfl (yl_assign rfl rfl (SeqR.done (tn (CW.ret (rr rfl (.cons rfl .nil) ?_)))))))))
    have hM107 : (l_eqRowS p_a p_b) = (true) := by simp only [l_eqRowS, hb3, hL106, cond_true, cond_false, loopE_done, loopE_ret]
    rw [hM107]
    exact ⟨rfl, hf19⟩
 ·have hb3p := dec_f hb3
  refine CW.cond_t rfl (not_f hb3) (CW.seq (CW.region (sd rfl (yl_assign rfl rfl (SeqR.done (tn (CW.ret (tr (rr rfl (.cons rfl .nil) ?_)))))))))
  have hM108 : (l_eqRowS p_a p_b) = (false) := by simp only [l_eqRowS, hb3, cond_true, cond_false, loopE_done, loopE_ret]
  rw [hM108]
  exact ⟨rfl, (Ex.refl w)⟩
set_option maxRecDepth 100000 in
set_option maxHeartbeats 2000000 in
theorem c_l_eqIdx {w : World} (p_a : DIdx) (p_b : DIdx) : Cal Tryz.prog 72 #[.agg #[.string (bs (p_a.Name)), .int .i64 (p_a.Col), .int .i64 (p_a.Stage)], .agg #[.string (bs (p_b.Name)), .int .i64 (p_b.Col), .int .i64 (p_b.Stage)]] w fun v w' => v = .bool ((l_eqIdx p_a p_b)) ∧ Ex w w' := by
 refine Cal.of (vs := [.agg #[.string (bs (p_a.Name)), .int .i64 (p_a.Col), .int .i64 (p_a.Stage)], .agg #[.string (bs (p_b.Name)), .int .i64 (p_b.Col), .int .i64 (p_b.Stage)]]) Tryz.func72 rfl Tryz.ntmps72 rfl (CW.seq (CW.region (sd rfl (yl_box (cs := [.string (bs (p_a.Name)), .int .i64 (p_a.Col), .int .i64 (p_a.Stage)]) rfl rfl rfl ?_))))
 intro b1 w2 hs3 hz4 hB5 hE6
 refine sd rfl (yl_box (cs := [.string (bs (p_b.Name)), .int .i64 (p_b.Col), .int .i64 (p_b.Stage)]) rfl rfl rfl ?_)
 intro b7 w8 hs9 hz10 hB11 hE12
 refine sd rfl (yl_assign rfl rfl (SeqR.done (tn (CW.seq (CW.seq (CW.region (sd rfl (yl_fieldAddr Tryz.fd104_0 rfl rfl ?_))))))))
 have q13 := Box.ex hB5 hE12
 refine sd rfl (yl_load1 Tryz.ty9 rfl rfl ((q13.cell 0).trans rfl) (sd rfl (yl_fieldAddr Tryz.fd104_0 rfl rfl (sd rfl (yl_load1 Tryz.ty9 rfl rfl ((hB11.cell 0).trans rfl) (sd rfl (yl_sneq (a := p_a.Name) (b := p_b.Name) rfl rfl rfl (SeqR.done (tn (bcase (p_a.Name == p_b.Name) (fun hb14 => ?_) (fun hb14 => ?_)))))))))))
 ·refine CW.cond_f rfl (not_t hb14) (CW.skip (tn (CW.seq (CW.seq (CW.region (sd rfl (yl_fieldAddr Tryz.fd104_1 rfl rfl (sd rfl (yl_load1 Tryz.ty3 rfl rfl ((q13.cell 1).trans rfl) (sd rfl (yl_fieldAddr Tryz.fd104_1 rfl rfl ?_)))))))))))
  refine sd rfl (yl_load1 Tryz.ty3 rfl rfl ((hB11.cell 1).trans rfl) (sd rfl (yl_neq rfl rfl rfl (SeqR.done (tn (bcase (decide (p_a.Col = p_b.Col)) (fun hb15 => ?_) (fun hb15 => ?_)))))))
  ·have hb15p := dec_t hb15
   refine CW.cond_f rfl (not_t hb15) (CW.skip (tn (CW.seq (CW.seq (CW.region (sd rfl (yl_fieldAddr Tryz.fd104_2 rfl rfl (sd rfl (yl_load1 Tryz.ty3 rfl rfl ((q13.cell 2).trans rfl) (sd rfl (yl_fieldAddr Tryz.fd104_2 rfl rfl ?_)))))))))))
   refine sd rfl (yl_load1 Tryz.ty3 rfl rfl ((hB11.cell 2).trans rfl) (sd rfl (yl_neq rfl rfl rfl (SeqR.done (tn (bcase (decide (p_a.Stage = p_b.Stage)) (fun hb16 => ?_) (fun hb16 => ?_)))))))
   ·have hb16p := dec_t hb16
    refine CW.cond_f rfl (not_t hb16) (CW.skip (tn (CW.seq (CW.region (sd rfl (yl_assign rfl rfl (SeqR.done (tn (CW.ret ?_)))))))))
    refine rr rfl (.cons rfl .nil) ?_
    have hM17 : (l_eqIdx p_a p_b) = (true) := by simp only [l_eqIdx, hb14, hb15, hb16, cond_true, cond_false, loopE_done, loopE_ret]
    rw [hM17]
    exact ⟨rfl, (Ex.trans (Ex.trans (Ex.refl w) hE6) hE12)⟩
   ·have hb16p := dec_f hb16
    refine CW.cond_t rfl (not_f hb16) (CW.seq (CW.region (sd rfl (yl_assign rfl rfl (SeqR.done (tn (CW.ret (tr (rr rfl (.cons rfl .nil) ?_)))))))))
    have hM20 : (l_eqIdx p_a p_b) = (false) := by simp only [l_eqIdx, hb14, hb15, hb16, cond_true, cond_false, loopE_done, loopE_ret]
    rw [hM20]
    exact ⟨rfl, (Ex.trans (Ex.trans (Ex.refl w) hE6) hE12)⟩
  ·have hb15p := dec_f hb15
   refine CW.cond_t rfl (not_f hb15) (CW.seq (CW.region (sd rfl (yl_assign rfl rfl (SeqR.done (tn (CW.ret (tr (rr rfl (.cons rfl .nil) ?_)))))))))
   have hM23 : (l_eqIdx p_a p_b) = (false) := by simp only [l_eqIdx, hb14, hb15, cond_true, cond_false, loopE_done, loopE_ret]
   rw [hM23]
   exact ⟨rfl, (Ex.trans (Ex.trans (Ex.refl w) hE6) hE12)⟩
 ·refine CW.cond_t rfl (not_f hb14) (CW.seq (CW.region (sd rfl (yl_assign rfl rfl (SeqR.done (tn (CW.ret (tr (rr rfl (.cons rfl .nil) ?_)))))))))
  have hM26 : (l_eqIdx p_a p_b) = (false) := by simp only [l_eqIdx, hb14, cond_true, cond_false, loopE_done, loopE_ret]
  rw [hM26]
  exact ⟨rfl, (Ex.trans (Ex.trans (Ex.refl w) hE6) hE12)⟩
set_option maxRecDepth 100000 in
set_option maxHeartbeats 2000000 in
theorem c_l_eqIdxS {A1 : Option Addr} {c1 : Nat} {A2 : Option Addr} {c2 : Nat} {w : World} (p_a : List DIdx) (p_b : List DIdx) (h1 : RdS w (Iv 0 w.heap.size) (RF e_Idx) 3 A1 p_a.length c1 p_a) (h2 : RdS w (Iv 0 w.heap.size) (RF e_Idx) 3 A2 p_b.length c2 p_b) : Cal Tryz.prog 37 #[.slice A1 p_a.length c1, .slice A2 p_b.length c2] w fun v w' => v = .bool ((l_eqIdxS p_a p_b)) ∧ Ex w w' := by
 refine Cal.of (vs := [.slice A1 p_a.length c1, .slice A2 p_b.length c2]) Tryz.func37 rfl Tryz.ntmps37 rfl (CW.seq (CW.region (sd rfl (yl_assign rfl rfl (SeqR.done (tn (CW.seq (CW.seq (CW.region ?_)))))))))
 refine sd rfl (yl_move rfl rfl (sd rfl (yl_len Tryz.un32 rfl rfl (sd rfl (yl_move rfl rfl (sd rfl (yl_len Tryz.un32 rfl rfl (sd rfl (yl_neq rfl rfl rfl (SeqR.done (tn (bcase (decide ((p_a.length : Int) = (p_b.length : Int))) (fun hb3 => ?_) (fun hb3 => ?_)))))))))))))
 ·have hb3p := dec_t hb3
  refine CW.cond_f rfl (not_t hb3) (CW.skip (tn (CW.seq (CW.seq (CW.region (sd rfl (yl_assign rfl rfl (SeqR.done (tn ?_)))))))))
  refine CW.block (CW.loop (fun m5 L6 w7 => ∃ (k4 : Nat), m5 = p_a.length - k4 ∧ k4 ≤ p_a.length ∧ w.heap.size ≤ w7.heap.size ∧ lkp L6 0 = some (.slice A1 p_a.length c1) ∧ lkp L6 1 = some (.slice A2 p_b.length c2) ∧ lkp L6 5 = some (.int .i64 ((k4 : Int))) ∧ RdS w7 (Iv 0 w.heap.size) (RF e_Idx) 3 A1 p_a.length c1 p_a ∧ RdS w7 (Iv 0 w.heap.size) (RF e_Idx) 3 A2 p_b.length c2 p_b ∧ Ex w w7 ∧ loopM (B_l_eqIdxS_0 p_a p_b) (p_a.length - k4) k4 () = loopM (B_l_eqIdxS_0 p_a p_b) (p_a.length - 0) 0 ()) (p_a.length - 0) ?_ ?_)
  ·exact ⟨0, rfl, (by omega), Nat.le_refl _, rfl, rfl, rfl, h1, h2, (Ex.refl w), rfl⟩
  ·rintro m8 L9 w10 ⟨k4, rfl, hk11, hsz13, hl14, hl15, hl16, hf17, hf18, hf19, hI12⟩
   refine CW.sub (Sub.cons hl14 (Sub.cons hl15 (Sub.cons hl16 (Sub.nil _)))) ?_
   have hf19z := Ex.size hf19
   have hbg20 := RdS.big hf17
   rcases Nat.lt_or_ge k4 p_a.length with hlt21 | hlt21
   ·refine CW.seq (CW.seq (CW.region (sd rfl (yl_move rfl rfl (sd rfl (yl_move rfl rfl (sd rfl (yl_len Tryz.un32 rfl rfl (sd rfl (yl_lss rfl rfl rfl (SeqR.done (tn ?_))))))))))))
    refine CW.cond_t rfl (lt_t hlt21) (CW.skip (tn (CW.seq (CW.block (CW.seq ?_)))))
    obtain ⟨eb22, eo22, ec22, eA22, eS22, ebl22, el22, eR22, eC22⟩ := RdS.atD hf17 d_Idx (i := k4) (by first | omega | assumption)
    obtain rfl := eR22
    have eC22 : Cells w10 eb22 (eo22 + k4 * 3) [.string (bs ((p_a.getD k4 d_Idx).Name)), .int .i64 ((p_a.getD k4 d_Idx).Col), .int .i64 ((p_a.getD k4 d_Idx).Stage)] := eC22
    obtain ⟨eb23, eo23, ec23, eA23, eS23, ebl23, el23, eR23, eC23⟩ := RdS.atD hf18 d_Idx (i := k4) (by first | omega | assumption)
    obtain rfl := eR23
    have eC23 : Cells w10 eb23 (eo23 + k4 * 3) [.string (bs ((p_b.getD k4 d_Idx).Name)), .int .i64 ((p_b.getD k4 d_Idx).Col), .int .i64 ((p_b.getD k4 d_Idx).Stage)] := eC23
    refine CW.drawsI 10 (vgetI [DetI (.slice A1 p_a.length c1), DetI (.int .i64 ((k4 : Int))), DetI (.pointer (some ⟨eb22, eo22 + k4 * 3, none⟩)), DetI (.agg #[.string (bs ((p_a.getD k4 d_Idx).Name)), .int .i64 ((p_a.getD k4 d_Idx).Col), .int .i64 ((p_a.getD k4 d_Idx).Stage)]), DetI (.slice A2 p_b.length c2), DetI (.int .i64 ((k4 : Int))), DetI (.pointer (some ⟨eb23, eo23 + k4 * 3, none⟩)), DetI (.agg #[.string (bs ((p_b.getD k4 d_Idx).Name)), .int .i64 ((p_b.getD k4 d_Idx).Col), .int .i64 ((p_b.getD k4 d_Idx).Stage)]), DetI (.bool ((l_eqIdx (p_a.getD k4 d_Idx) (p_b.getD k4 d_Idx)))), DetI (.bool (!(l_eqIdx (p_a.getD k4 d_Idx) (p_b.getD k4 d_Idx))))]) Tryz.follows rfl rfl rfl rfl rfl rfl (vgetI_stable ⟨StableI.det _, StableI.det _, StableI.det _, StableI.det _, StableI.det _, StableI.det _, StableI.det _, StableI.det _, StableI.det _, StableI.det _, trivial⟩) ⟨?_, ?_, ?_, ?_, ?_, ?_, ?_, ?_, ?_, ?_, trivial⟩ ?_
    ·exact fun _ _ h => os rfl ((yl_move rfl (h.old 0 _ rfl rfl) kI))
    ·exact fun _ _ h => os rfl ((yl_move rfl (h.old 5 _ rfl rfl) kI))
    ·intro L35 w36 hi37
     have hE38 := hi37.ex
     have hE38z := Ex.size hE38
     exact os rfl ((yl_indexAddrN Tryz.un32 Tryz.ty104 rfl (hi37.dt 0 17 rfl rfl rfl) (hi37.dt 1 18 rfl rfl rfl) eA22 (by first | omega | assumption | (simp only [IntKind.wrap_i64] at *; omega)) kI))
    ·exact fun _ _ h => os rfl ((yl_loadN (cs := [.string (bs ((p_a.getD k4 d_Idx).Name)), .int .i64 ((p_a.getD k4 d_Idx).Col), .int .i64 ((p_a.getD k4 d_Idx).Stage)]) Tryz.ty104 rfl (h.dt 2 19 rfl rfl rfl) (Cells.ex eC22 h.ex) rfl kI))
    ·exact fun _ _ h => os rfl ((yl_move rfl (h.old 1 _ rfl rfl) kI))
    ·exact fun _ _ h => os rfl ((yl_move rfl (h.old 5 _ rfl rfl) kI))
    ·intro L57 w58 hi59
     have hE60 := hi59.ex
     have hE60z := Ex.size hE60
     exact os rfl ((yl_indexAddrN Tryz.un32 Tryz.ty104 rfl (hi59.dt 4 21 rfl rfl rfl) (hi59.dt 5 22 rfl rfl rfl) eA23 (by first | omega | assumption | (simp only [IntKind.wrap_i64] at *; omega)) kI))
    ·exact fun _ _ h => os rfl ((yl_loadN (cs := [.string (bs ((p_b.getD k4 d_Idx).Name)), .int .i64 ((p_b.getD k4 d_Idx).Col), .int .i64 ((p_b.getD k4 d_Idx).Stage)]) Tryz.ty104 rfl (h.dt 6 23 rfl rfl rfl) (Cells.ex eC23 h.ex) rfl kI))
    ·intro L69 w70 hi71
     refine OpR.op' rfl (yl_call Tryz.en72 rfl (opvs_cons (hi71.dt 3 20 rfl rfl rfl) (opvs_cons (hi71.dt 7 24 rfl rfl rfl) opvs_nil)) (Cal.mono (c_l_eqIdx (p_a.getD k4 d_Idx) (p_b.getD k4 d_Idx)) ?_))
     rintro v76 w75 ⟨rfl, hE77⟩
     exact ⟨rfl, hE77⟩
    ·exact fun _ _ h => os rfl ((yl_not rfl (h.dt 8 25 rfl rfl rfl) kI))
    ·intro fl86 fh87 L83 w84 hp85
     have hE88 := hp85.ex
     have hE88z := Ex.size hE88
     refine SeqR.done (tn (CW.sub (Sub.cons (d := 0) (hp85.old 0 _ rfl rfl) (Sub.cons (d := 1) (hp85.old 1 _ rfl rfl) (Sub.cons (d := 5) (hp85.old 5 _ rfl rfl) (Sub.cons (d := 26) (hp85.nt 9 26 rfl rfl rfl) (Sub.nil _))))) (bcase (l_eqIdx (p_a.getD k4 d_Idx) (p_b.getD k4 d_Idx)) (fun hb93 => ?_) (fun hb93 => ?_))))
     ·refine CW.cond_f rfl (not_t hb93) (CW.skip (bn (tn (CW.region (sd rfl (yl_move rfl rfl (sd rfl (yl_inc rfl rfl rfl (by omega) (sd rfl (yl_assign rfl rfl (SeqR.done ?_)))))))))))
      refine tn ?_
      have hB94 : B_l_eqIdxS_0 p_a p_b k4 () = .cont () := by simp only [B_l_eqIdxS_0, hb3, hb93, cond_true, cond_false, loopE_done, loopE_ret]
      exact ⟨p_a.length - (k4 + 1), by omega, k4 + 1, rfl, hlt21, (by omega), rfl, rfl, rfl, (RdS.ex good_Idx hf17 hE88), (RdS.ex good_Idx hf18 hE88), (Ex.trans hf19 hE88), (loopM.cont hlt21 hB94).symm.trans hI12⟩
     ·refine CW.cond_t rfl (not_f hb93) (CW.seq (CW.region (sd rfl (yl_assign rfl rfl (SeqR.done (tn (CW.ret (br (tr ?_)))))))))
      refine tr ?_
      have hB99 : B_l_eqIdxS_0 p_a p_b k4 () = .ret false := by simp only [B_l_eqIdxS_0, hb3, hb93, cond_true, cond_false, loopE_done, loopE_ret]
      have hL98 : loopM (B_l_eqIdxS_0 p_a p_b) (p_a.length - 0) 0 () = .ret false := hI12.symm.trans (loopM.ret hlt21 hB99)
      refine br (tr (rr rfl (.cons rfl .nil) ?_))
      have hM100 : (l_eqIdxS p_a p_b) = (false) := by simp only [l_eqIdxS, hb3, hb93, hL98, cond_true, cond_false, loopE_done, loopE_ret]
      rw [hM100]
      exact ⟨rfl, (Ex.trans hf19 hE88)⟩
   ·refine CW.seq (CW.seq (CW.region (sd rfl (yl_move rfl rfl (sd rfl (yl_move rfl rfl (sd rfl (yl_len Tryz.un32 rfl rfl (sd rfl (yl_lss rfl rfl rfl (SeqR.done (tn ?_))))))))))))
    refine CW.cond_f rfl (lt_f hlt21) (CW.exit (tx (tx ?_)))
    have hL102 : loopM (B_l_eqIdxS_0 p_a p_b) (p_a.length - 0) 0 () = .done () := hI12.symm.trans (loopM.stop hlt21)
    refine bx (tn (CW.seq (CW.region (sd rfl (yl_assign rfl rfl (SeqR.done (tn (CW.ret (rr rfl (.cons rfl .nil) ?_)))))))))
    have hM103 : (l_eqIdxS p_a p_b) = (true) := by simp only [l_eqIdxS, hb3, hL102, cond_true, cond_false, loopE_done, loopE_ret]
    rw [hM103]
    exact ⟨rfl, hf19⟩
 ·have hb3p := dec_f hb3
  refine CW.cond_t rfl (not_f hb3) (CW.seq (CW.region (sd rfl (yl_assign rfl rfl (SeqR.done (tn (CW.ret (tr (rr rfl (.cons rfl .nil) ?_)))))))))
  have hM104 : (l_eqIdxS p_a p_b) = (false) := by simp only [l_eqIdxS, hb3, cond_true, cond_false, loopE_done, loopE_ret]
  rw [hM104]
  exact ⟨rfl, (Ex.refl w)⟩
set_option maxRecDepth 100000 in
set_option maxHeartbeats 2000000 in
theorem c_l_eqTable {A1 : Option Addr} {c1 : Nat} {A2 : Option Addr} {c2 : Nat} {A3 : Option Addr} {c3 : Nat} {A4 : Option Addr} {c4 : Nat} {w : World} (p_a : DTable) (p_b : DTable) (h1 : RdS w (Iv 0 w.heap.size) (RF e_Str) 1 A1 p_a.Cols.length c1 p_a.Cols) (h2 : RdS w (Iv 0 w.heap.size) (RF e_Idx) 3 A2 p_a.Idxs.length c2 p_a.Idxs) (h3 : RdS w (Iv 0 w.heap.size) (RF e_Str) 1 A3 p_b.Cols.length c3 p_b.Cols) (h4 : RdS w (Iv 0 w.heap.size) (RF e_Idx) 3 A4 p_b.Idxs.length c4 p_b.Idxs) : Cal Tryz.prog 12 #[.agg #[.string (bs (p_a.Name)), .slice A1 p_a.Cols.length c1, .slice A2 p_a.Idxs.length c2], .agg #[.string (bs (p_b.Name)), .slice A3 p_b.Cols.length c3, .slice A4 p_b.Idxs.length c4]] w fun v w' => v = .bool ((l_eqTable p_a p_b)) ∧ Ex w w' := by
 refine Cal.of (vs := [.agg #[.string (bs (p_a.Name)), .slice A1 p_a.Cols.length c1, .slice A2 p_a.Idxs.length c2], .agg #[.string (bs (p_b.Name)), .slice A3 p_b.Cols.length c3, .slice A4 p_b.Idxs.length c4]]) Tryz.func12 rfl Tryz.ntmps12 rfl (CW.seq (CW.region (sd rfl (yl_box (cs := [.string (bs (p_a.Name)), .slice A1 p_a.Cols.length c1, .slice A2 p_a.Idxs.length c2]) rfl rfl rfl ?_))))
 intro b5 w6 hs7 hz8 hB9 hE10
 refine sd rfl (yl_box (cs := [.string (bs (p_b.Name)), .slice A3 p_b.Cols.length c3, .slice A4 p_b.Idxs.length c4]) rfl rfl rfl ?_)
 intro b11 w12 hs13 hz14 hB15 hE16
 refine sd rfl (yl_assign rfl rfl (SeqR.done (tn (CW.seq (CW.seq (CW.region (sd rfl (yl_fieldAddr Tryz.fd34_0 rfl rfl ?_))))))))
 have q17 := Box.ex hB9 hE16
 refine sd rfl (yl_load1 Tryz.ty9 rfl rfl ((q17.cell 0).trans rfl) (sd rfl (yl_fieldAddr Tryz.fd34_0 rfl rfl (sd rfl (yl_load1 Tryz.ty9 rfl rfl ((hB15.cell 0).trans rfl) (sd rfl (yl_sneq (a := p_a.Name) (b := p_b.Name) rfl rfl rfl (SeqR.done (tn (bcase (p_a.Name == p_b.Name) (fun hb18 => ?_) (fun hb18 => ?_)))))))))))
 ·refine CW.cond_f rfl (not_t hb18) (CW.skip (tn (CW.seq (CW.seq (CW.region (sd rfl (yl_fieldAddr Tryz.fd34_1 rfl rfl (sd rfl (yl_load1 Tryz.ty22 rfl rfl ((q17.cell 1).trans rfl) (sd rfl (yl_fieldAddr Tryz.fd34_1 rfl rfl ?_)))))))))))
  refine sd rfl (yl_load1 Tryz.ty22 rfl rfl ((hB15.cell 1).trans rfl) (sd rfl (yl_call Tryz.en36 rfl (opvs_cons rfl (opvs_cons rfl opvs_nil)) (Cal.mono (c_l_eqStringS p_a.Cols p_b.Cols (RdS.up (RdS.ex good_Str (RdS.ex good_Str h1 hE10) hE16) good_Str) (RdS.up (RdS.ex good_Str (RdS.ex good_Str h3 hE10) hE16) good_Str)) ?_))))
  rintro v24 w23 ⟨rfl, hE25⟩
  have hE25z := Ex.size hE25
  refine sd rfl (yl_not rfl rfl (SeqR.done (tn (bcase (l_eqStringS p_a.Cols p_b.Cols) (fun hb26 => ?_) (fun hb26 => ?_)))))
  ·refine CW.cond_f rfl (not_t hb26) (CW.skip (tn (CW.seq (CW.seq (CW.region (sd rfl (yl_fieldAddr Tryz.fd34_2 rfl rfl (sd rfl (yl_load1 Tryz.ty32 rfl rfl (((Box.ex q17 hE25).cell 2).trans rfl) (sd rfl (yl_fieldAddr Tryz.fd34_2 rfl rfl ?_)))))))))))
   refine sd rfl (yl_load1 Tryz.ty32 rfl rfl (((Box.ex hB15 hE25).cell 2).trans rfl) (sd rfl (yl_call Tryz.en37 rfl (opvs_cons rfl (opvs_cons rfl opvs_nil)) (Cal.mono (c_l_eqIdxS p_a.Idxs p_b.Idxs (RdS.up (RdS.ex good_Idx (RdS.ex good_Idx (RdS.ex good_Idx h2 hE10) hE16) hE25) good_Idx) (RdS.up (RdS.ex good_Idx (RdS.ex good_Idx (RdS.ex good_Idx h4 hE10) hE16) hE25) good_Idx)) ?_))))
   rintro v36 w35 ⟨rfl, hE37⟩
   have hE37z := Ex.size hE37
   refine sd rfl (yl_not rfl rfl (SeqR.done (tn (bcase (l_eqIdxS p_a.Idxs p_b.Idxs) (fun hb38 => ?_) (fun hb38 => ?_)))))
   ·refine CW.cond_f rfl (not_t hb38) (CW.skip (tn (CW.seq (CW.region (sd rfl (yl_assign rfl rfl (SeqR.done (tn (CW.ret ?_)))))))))
    refine rr rfl (.cons rfl .nil) ?_
    have hM39 : (l_eqTable p_a p_b) = (true) := by simp only [l_eqTable, hb18, hb26, hb38, cond_true, cond_false, loopE_done, loopE_ret]
    rw [hM39]
    exact ⟨rfl, (Ex.trans (Ex.trans (Ex.trans (Ex.trans (Ex.refl w) hE10) hE16) hE25) hE37)⟩
   ·refine CW.cond_t rfl (not_f hb38) (CW.seq (CW.region (sd rfl (yl_assign rfl rfl (SeqR.done (tn (CW.ret (tr (rr rfl (.cons rfl .nil) ?_)))))))))
    have hM44 : (l_eqTable p_a p_b) = (false) := by simp only [l_eqTable, hb18, hb26, hb38, cond_true, cond_false, loopE_done, loopE_ret]
    rw [hM44]
    exact ⟨rfl, (Ex.trans (Ex.trans (Ex.trans (Ex.trans (Ex.refl w) hE10) hE16) hE25) hE37)⟩
  ·refine CW.cond_t rfl (not_f hb26) (CW.seq (CW.region (sd rfl (yl_assign rfl rfl (SeqR.done (tn (CW.ret (tr (rr rfl (.cons rfl .nil) ?_)))))))))
   have hM49 : (l_eqTable p_a p_b) = (false) := by simp only [l_eqTable, hb18, hb26, cond_true, cond_false, loopE_done, loopE_ret]
   rw [hM49]
   exact ⟨rfl, (Ex.trans (Ex.trans (Ex.trans (Ex.refl w) hE10) hE16) hE25)⟩
 ·refine CW.cond_t rfl (not_f hb18) (CW.seq (CW.region (sd rfl (yl_assign rfl rfl (SeqR.done (tn (CW.ret (tr (rr rfl (.cons rfl .nil) ?_)))))))))
  have hM53 : (l_eqTable p_a p_b) = (false) := by simp only [l_eqTable, hb18, cond_true, cond_false, loopE_done, loopE_ret]
  rw [hM53]
  exact ⟨rfl, (Ex.trans (Ex.trans (Ex.refl w) hE10) hE16)⟩
set_option maxRecDepth 100000 in
set_option maxHeartbeats 2000000 in
theorem c_l_eqWrite {w : World} (p_a : DWrite) (p_b : DWrite) : Cal Tryz.prog 38 #[.agg #[.string (bs (p_a.Key)), .string (bs (p_a.Val)), .bool (p_a.Gone)], .agg #[.string (bs (p_b.Key)), .string (bs (p_b.Val)), .bool (p_b.Gone)]] w fun v w' => v = .bool ((l_eqWrite p_a p_b)) ∧ Ex w w' := by
 refine Cal.of (vs := [.agg #[.string (bs (p_a.Key)), .string (bs (p_a.Val)), .bool (p_a.Gone)], .agg #[.string (bs (p_b.Key)), .string (bs (p_b.Val)), .bool (p_b.Gone)]]) Tryz.func38 rfl Tryz.ntmps38 rfl (CW.seq (CW.region (sd rfl (yl_box (cs := [.string (bs (p_a.Key)), .string (bs (p_a.Val)), .bool (p_a.Gone)]) rfl rfl rfl ?_))))
 intro b1 w2 hs3 hz4 hB5 hE6
 refine sd rfl (yl_box (cs := [.string (bs (p_b.Key)), .string (bs (p_b.Val)), .bool (p_b.Gone)]) rfl rfl rfl ?_)
 intro b7 w8 hs9 hz10 hB11 hE12
 refine sd rfl (yl_assign rfl rfl (SeqR.done (tn (CW.seq (CW.seq (CW.region (sd rfl (yl_fieldAddr Tryz.fd75_0 rfl rfl ?_))))))))
 have q13 := Box.ex hB5 hE12
 refine sd rfl (yl_load1 Tryz.ty9 rfl rfl ((q13.cell 0).trans rfl) (sd rfl (yl_fieldAddr Tryz.fd75_0 rfl rfl (sd rfl (yl_load1 Tryz.ty9 rfl rfl ((hB11.cell 0).trans rfl) (sd rfl (yl_sneq (a := p_a.Key) (b := p_b.Key) rfl rfl rfl (SeqR.done (tn (bcase (p_a.Key == p_b.Key) (fun hb14 => ?_) (fun hb14 => ?_)))))))))))
 ·refine CW.cond_f rfl (not_t hb14) (CW.skip (tn (CW.seq (CW.seq (CW.region (sd rfl (yl_fieldAddr Tryz.fd75_1 rfl rfl (sd rfl (yl_load1 Tryz.ty9 rfl rfl ((q13.cell 1).trans rfl) (sd rfl (yl_fieldAddr Tryz.fd75_1 rfl rfl ?_)))))))))))
  refine sd rfl (yl_load1 Tryz.ty9 rfl rfl ((hB11.cell 1).trans rfl) (sd rfl (yl_sneq (a := p_a.Val) (b := p_b.Val) rfl rfl rfl (SeqR.done (tn (bcase (p_a.Val == p_b.Val) (fun hb15 => ?_) (fun hb15 => ?_)))))))
  ·refine CW.cond_f rfl (not_t hb15) (CW.skip (tn (CW.seq (CW.seq (CW.region (sd rfl (yl_fieldAddr Tryz.fd75_2 rfl rfl (sd rfl (yl_load1 Tryz.ty4 rfl rfl ((q13.cell 2).trans rfl) (sd rfl (yl_fieldAddr Tryz.fd75_2 rfl rfl ?_)))))))))))
   refine sd rfl (yl_load1 Tryz.ty4 rfl rfl ((hB11.cell 2).trans rfl) (sd rfl (yl_bneq Tryz.un4 rfl rfl rfl (SeqR.done (tn (bcase (p_a.Gone == p_b.Gone) (fun hb16 => ?_) (fun hb16 => ?_)))))))
   ·refine CW.cond_f rfl (not_t hb16) (CW.skip (tn (CW.seq (CW.region (sd rfl (yl_assign rfl rfl (SeqR.done (tn (CW.ret ?_)))))))))
    refine rr rfl (.cons rfl .nil) ?_
    have hM17 : (l_eqWrite p_a p_b) = (true) := by simp only [l_eqWrite, hb14, hb15, hb16, cond_true, cond_false, loopE_done, loopE_ret]
    rw [hM17]
    exact ⟨rfl, (Ex.trans (Ex.trans (Ex.refl w) hE6) hE12)⟩
   ·refine CW.cond_t rfl (not_f hb16) (CW.seq (CW.region (sd rfl (yl_assign rfl rfl (SeqR.done (tn (CW.ret (tr (rr rfl (.cons rfl .nil) ?_)))))))))
    have hM20 : (l_eqWrite p_a p_b) = (false) := by simp only [l_eqWrite, hb14, hb15, hb16, cond_true, cond_false, loopE_done, loopE_ret]
    rw [hM20]
    exact ⟨rfl, (Ex.trans (Ex.trans (Ex.refl w) hE6) hE12)⟩
  ·refine CW.cond_t rfl (not_f hb15) (CW.seq (CW.region (sd rfl (yl_assign rfl rfl (SeqR.done (tn (CW.ret (tr (rr rfl (.cons rfl .nil) ?_)))))))))
   have hM23 : (l_eqWrite p_a p_b) = (false) := by simp only [l_eqWrite, hb14, hb15, cond_true, cond_false, loopE_done, loopE_ret]
   rw [hM23]
   exact ⟨rfl, (Ex.trans (Ex.trans (Ex.refl w) hE6) hE12)⟩
 ·refine CW.cond_t rfl (not_f hb14) (CW.seq (CW.region (sd rfl (yl_assign rfl rfl (SeqR.done (tn (CW.ret (tr (rr rfl (.cons rfl .nil) ?_)))))))))
  have hM26 : (l_eqWrite p_a p_b) = (false) := by simp only [l_eqWrite, hb14, cond_true, cond_false, loopE_done, loopE_ret]
  rw [hM26]
  exact ⟨rfl, (Ex.trans (Ex.trans (Ex.refl w) hE6) hE12)⟩
set_option maxRecDepth 100000 in
set_option maxHeartbeats 2000000 in
theorem c_l_eqWriteS {A1 : Option Addr} {c1 : Nat} {A2 : Option Addr} {c2 : Nat} {w : World} (p_a : List DWrite) (p_b : List DWrite) (h1 : RdS w (Iv 0 w.heap.size) (RF e_Write) 3 A1 p_a.length c1 p_a) (h2 : RdS w (Iv 0 w.heap.size) (RF e_Write) 3 A2 p_b.length c2 p_b) : Cal Tryz.prog 13 #[.slice A1 p_a.length c1, .slice A2 p_b.length c2] w fun v w' => v = .bool ((l_eqWriteS p_a p_b)) ∧ Ex w w' := by
 refine Cal.of (vs := [.slice A1 p_a.length c1, .slice A2 p_b.length c2]) Tryz.func13 rfl Tryz.ntmps13 rfl (CW.seq (CW.region (sd rfl (yl_assign rfl rfl (SeqR.done (tn (CW.seq (CW.seq (CW.region ?_)))))))))
 refine sd rfl (yl_move rfl rfl (sd rfl (yl_len Tryz.un36 rfl rfl (sd rfl (yl_move rfl rfl (sd rfl (yl_len Tryz.un36 rfl rfl (sd rfl (yl_neq rfl rfl rfl (SeqR.done (tn (bcase (decide ((p_a.length : Int) = (p_b.length : Int))) (fun hb3 => ?_) (fun hb3 => ?_)))))))))))))
 ·have hb3p := dec_t hb3
  refine CW.cond_f rfl (not_t hb3) (CW.skip (tn (CW.seq (CW.seq (CW.region (sd rfl (yl_assign rfl rfl (SeqR.done (tn ?_)))))))))
  refine CW.block (CW.loop (fun m5 L6 w7 => ∃ (k4 : Nat), m5 = p_a.length - k4 ∧ k4 ≤ p_a.length ∧ w.heap.size ≤ w7.heap.size ∧ lkp L6 0 = some (.slice A1 p_a.length c1) ∧ lkp L6 1 = some (.slice A2 p_b.length c2) ∧ lkp L6 5 = some (.int .i64 ((k4 : Int))) ∧ RdS w7 (Iv 0 w.heap.size) (RF e_Write) 3 A1 p_a.length c1 p_a ∧ RdS w7 (Iv 0 w.heap.size) (RF e_Write) 3 A2 p_b.length c2 p_b ∧ Ex w w7 ∧ loopM (B_l_eqWriteS_0 p_a p_b) (p_a.length - k4) k4 () = loopM (B_l_eqWriteS_0 p_a p_b) (p_a.length - 0) 0 ()) (p_a.length - 0) ?_ ?_)
  ·exact ⟨0, rfl, (by omega), Nat.le_refl _, rfl, rfl, rfl, h1, h2, (Ex.refl w), rfl⟩
  ·rintro m8 L9 w10 ⟨k4, rfl, hk11, hsz13, hl14, hl15, hl16, hf17, hf18, hf19, hI12⟩
   refine CW.sub (Sub.cons hl14 (Sub.cons hl15 (Sub.cons hl16 (Sub.nil _)))) ?_
   have hf19z := Ex.size hf19
   have hbg20 := RdS.big hf17
   rcases Nat.lt_or_ge k4 p_a.length with hlt21 | hlt21
   ·refine CW.seq (CW.seq (CW.region (sd rfl (yl_move rfl rfl (sd rfl (yl_move rfl rfl (sd rfl (yl_len Tryz.un36 rfl rfl (sd rfl (yl_lss rfl rfl rfl (SeqR.done (tn ?_))))))))))))
    refine CW.cond_t rfl (lt_t hlt21) (CW.skip (tn (CW.seq (CW.block (CW.seq ?_)))))
    obtain ⟨eb22, eo22, ec22, eA22, eS22, ebl22, el22, eR22, eC22⟩ := RdS.atD hf17 d_Write (i := k4) (by first | omega | assumption)
    obtain rfl := eR22
    have eC22 : Cells w10 eb22 (eo22 + k4 * 3) [.string (bs ((p_a.getD k4 d_Write).Key)), .string (bs ((p_a.getD k4 d_Write).Val)), .bool ((p_a.getD k4 d_Write).Gone)] := eC22
    obtain ⟨eb23, eo23, ec23, eA23, eS23, ebl23, el23, eR23, eC23⟩ := RdS.atD hf18 d_Write (i := k4) (by first | omega | assumption)
    obtain rfl := eR23
    have eC23 : Cells w10 eb23 (eo23 + k4 * 3) [.string (bs ((p_b.getD k4 d_Write).Key)), .string (bs ((p_b.getD k4 d_Write).Val)), .bool ((p_b.getD k4 d_Write).Gone)] := eC23
    refine CW.drawsI 10 (vgetI [DetI (.slice A1 p_a.length c1), DetI (.int .i64 ((k4 : Int))), DetI (.pointer (some ⟨eb22, eo22 + k4 * 3, none⟩)), DetI (.agg #[.string (bs ((p_a.getD k4 d_Write).Key)), .string (bs ((p_a.getD k4 d_Write).Val)), .bool ((p_a.getD k4 d_Write).Gone)]), DetI (.slice A2 p_b.length c2), DetI (.int .i64 ((k4 : Int))), DetI (.pointer (some ⟨eb23, eo23 + k4 * 3, none⟩)), DetI (.agg #[.string (bs ((p_b.getD k4 d_Write).Key)), .string (bs ((p_b.getD k4 d_Write).Val)), .bool ((p_b.getD k4 d_Write).Gone)]), DetI (.bool ((l_eqWrite (p_a.getD k4 d_Write) (p_b.getD k4 d_Write)))), DetI (.bool (!(l_eqWrite (p_a.getD k4 d_Write) (p_b.getD k4 d_Write))))]) Tryz.follows rfl rfl rfl rfl rfl rfl (vgetI_stable ⟨StableI.det _, StableI.det _, StableI.det _, StableI.det _, StableI.det _, StableI.det _, StableI.det _, StableI.det _, StableI.det _, StableI.det _, trivial⟩) ⟨?_, ?_, ?_, ?_, ?_, ?_, ?_, ?_, ?_, ?_, trivial⟩ ?_
    ·exact fun _ _ h => os rfl ((yl_move rfl (h.old 0 _ rfl rfl) kI))
    ·exact fun _ _ h => os rfl ((yl_move rfl (h.old 5 _ rfl rfl) kI))
    ·intro L35 w36 hi37
     have hE38 := hi37.ex
     have hE38z := Ex.size hE38
     exact os rfl ((yl_indexAddrN Tryz.un36 Tryz.ty75 rfl (hi37.dt 0 17 rfl rfl rfl) (hi37.dt 1 18 rfl rfl rfl) eA22 (by first | omega | assumption | (simp only [IntKind.wrap_i64] at *; omega)) kI))
    ·exact fun _ _ h => os rfl ((yl_loadN (cs := [.string (bs ((p_a.getD k4 d_Write).Key)), .string (bs ((p_a.getD k4 d_Write).Val)), .bool ((p_a.getD k4 d_Write).Gone)]) Tryz.ty75 rfl (h.dt 2 19 rfl rfl rfl) (Cells.ex eC22 h.ex) rfl kI))
    ·exact fun _ _ h => os rfl ((yl_move rfl (h.old 1 _ rfl rfl) kI))
    ·exact fun _ _ h => os rfl ((yl_move rfl (h.old 5 _ rfl rfl) kI))
    ·intro L57 w58 hi59
     have hE60 := hi59.ex
     have hE60z := Ex.size hE60
     exact os rfl ((yl_indexAddrN Tryz.un36 Tryz.ty75 rfl (hi59.dt 4 21 rfl rfl rfl) (hi59.dt 5 22 rfl rfl rfl) eA23 (by first | omega | assumption | (simp only [IntKind.wrap_i64] at *; omega)) kI))
    ·exact fun _ _ h => os rfl ((yl_loadN (cs := [.string (bs ((p_b.getD k4 d_Write).Key)), .string (bs ((p_b.getD k4 d_Write).Val)), .bool ((p_b.getD k4 d_Write).Gone)]) Tryz.ty75 rfl (h.dt 6 23 rfl rfl rfl) (Cells.ex eC23 h.ex) rfl kI))
    ·intro L69 w70 hi71
     refine OpR.op' rfl (yl_call Tryz.en38 rfl (opvs_cons (hi71.dt 3 20 rfl rfl rfl) (opvs_cons (hi71.dt 7 24 rfl rfl rfl) opvs_nil)) (Cal.mono (c_l_eqWrite (p_a.getD k4 d_Write) (p_b.getD k4 d_Write)) ?_))
     rintro v76 w75 ⟨rfl, hE77⟩
     exact ⟨rfl, hE77⟩
    ·exact fun _ _ h => os rfl ((yl_not rfl (h.dt 8 25 rfl rfl rfl) kI))
    ·intro fl86 fh87 L83 w84 hp85
     have hE88 := hp85.ex
     have hE88z := Ex.size hE88
     refine SeqR.done (tn (CW.sub (Sub.cons (d := 0) (hp85.old 0 _ rfl rfl) (Sub.cons (d := 1) (hp85.old 1 _ rfl rfl) (Sub.cons (d := 5) (hp85.old 5 _ rfl rfl) (Sub.cons (d := 26) (hp85.nt 9 26 rfl rfl rfl) (Sub.nil _))))) (bcase (l_eqWrite (p_a.getD k4 d_Write) (p_b.getD k4 d_Write)) (fun hb93 => ?_) (fun hb93 => ?_))))
     ·refine CW.cond_f rfl (not_t hb93) (CW.skip (bn (tn (CW.region (sd rfl (yl_move rfl rfl (sd rfl (yl_inc rfl rfl rfl (by omega) (sd rfl (yl_assign rfl rfl (SeqR.done ?_)))))))))))
      refine tn ?_
      have hB94 : B_l_eqWriteS_0 p_a p_b k4 () = .cont () := by simp only [B_l_eqWriteS_0, hb3, hb93, cond_true, cond_false, loopE_done, loopE_ret]
      exact ⟨p_a.length - (k4 + 1), by omega, k4 + 1, rfl, hlt21, (by omega), rfl, rfl, rfl, (RdS.ex good_Write hf17 hE88), (RdS.ex good_Write hf18 hE88), (Ex.trans hf19 hE88), (loopM.cont hlt21 hB94).symm.trans hI12⟩
     ·refine CW.cond_t rfl (not_f hb93) (CW.seq (CW.region (sd rfl (yl_assign rfl rfl (SeqR.done (tn (CW.ret (br (tr ?_)))))))))
      refine tr ?_
      have hB99 : B_l_eqWriteS_0 p_a p_b k4 () = .ret false := by simp only [B_l_eqWriteS_0, hb3, hb93, cond_true, cond_false, loopE_done, loopE_ret]
      have hL98 : loopM (B_l_eqWriteS_0 p_a p_b) (p_a.length - 0) 0 () = .ret false := hI12.symm.trans (loopM.ret hlt21 hB99)
      refine br (tr (rr rfl (.cons rfl .nil) ?_))
      have hM100 : (l_eqWriteS p_a p_b) = (false) := by simp only [l_eqWriteS, hb3, hb93, hL98, cond_true, cond_false, loopE_done, loopE_ret]
      rw [hM100]
      exact ⟨rfl, (Ex.trans hf19 hE88)⟩
   ·refine CW.seq (CW.seq (CW.region (sd rfl (yl_move rfl rfl (sd rfl (yl_move rfl rfl (sd rfl (yl_len Tryz.un36 rfl rfl (sd rfl (yl_lss rfl rfl rfl (SeqR.done (tn ?_))))))))))))
    refine CW.cond_f rfl (lt_f hlt21) (CW.exit (tx (tx ?_)))
    have hL102 : loopM (B_l_eqWriteS_0 p_a p_b) (p_a.length - 0) 0 () = .done () := hI12.symm.trans (loopM.stop hlt21)
    refine bx (tn (CW.seq (CW.region (sd rfl (yl_assign rfl rfl (SeqR.done (tn (CW.ret (rr rfl (.cons rfl .nil) ?_)))))))))
    have hM103 : (l_eqWriteS p_a p_b) = (true) := by simp only [l_eqWriteS, hb3, hL102, cond_true, cond_false, loopE_done, loopE_ret]
    rw [hM103]
    exact ⟨rfl, hf19⟩
 ·have hb3p := dec_f hb3
  refine CW.cond_t rfl (not_f hb3) (CW.seq (CW.region (sd rfl (yl_assign rfl rfl (SeqR.done (tn (CW.ret (tr (rr rfl (.cons rfl .nil) ?_)))))))))
  have hM104 : (l_eqWriteS p_a p_b) = (false) := by simp only [l_eqWriteS, hb3, cond_true, cond_false, loopE_done, loopE_ret]
  rw [hM104]
  exact ⟨rfl, (Ex.refl w)⟩
set_option maxRecDepth 100000 in
set_option maxHeartbeats 2000000 in
theorem c_l_markText {w : World} (p_k : Int) (pre0 : p_k ≤ 9223372036854775807) : Cal Tryz.prog 41 #[.int .i64 (p_k)] w fun v w' => v = .string (bs ((l_markText p_k))) ∧ Ex w w' := by
 refine Cal.of (vs := [.int .i64 (p_k)]) Tryz.func41 rfl Tryz.ntmps41 rfl (CW.seq (CW.region (sd rfl (yl_assign rfl rfl (SeqR.done (tn (CW.seq (CW.seq (CW.region ?_)))))))))
 refine sd rfl (yl_move rfl rfl (sd rfl (yl_leq rfl rfl rfl (SeqR.done (tn (bcase (decide (p_k ≤ 0)) (fun hb1 => ?_) (fun hb1 => ?_)))))))
 ·have hb1p := dec_t hb1
  refine CW.cond_t rfl hb1 (CW.seq (CW.region (sd rfl (yl_assign rfl rfl (SeqR.done (tn (CW.ret (tr (rr rfl (.cons rfl .nil) ?_)))))))))
  have hM2 : (l_markText p_k) = (([109, 48] : Str)) := by simp only [l_markText, hb1, cond_true, cond_false, loopE_done, loopE_ret]
  rw [hM2]
  exact ⟨rfl, (Ex.refl w)⟩
 ·have hb1p := dec_f hb1
  refine CW.cond_f rfl hb1 (CW.skip (tn (CW.seq (CW.region (sd rfl (yl_assign rfl rfl (SeqR.done (tn (CW.seq ?_)))))))))
  refine CW.block (CW.loop (fun m18 L19 w20 => ∃ (x16 : Int) (x17 : Str), (((x16).toNat + 1) / 2) < m18 ∧ w.heap.size ≤ w20.heap.size ∧ lkp L19 0 = some (.int .i64 (x16)) ∧ lkp L19 3 = some (.string (bs (x17))) ∧ Ex w w20 ∧ x17.length + 1 * (((x16).toNat + 1) / 2) ≤ 0 + 1 * (((p_k).toNat + 1) / 2) ∧ x16 ≤ 9223372036854775807 ∧ loopW (B_l_markText_0 p_k) m18 (x16, x17) = loopW (B_l_markText_0 p_k) ((((p_k).toNat + 1) / 2) + 1) (p_k, ([] : Str))) ((((p_k).toNat + 1) / 2) + 1) ?_ ?_)
  ·exact ⟨p_k, ([] : Str), Nat.lt_succ_self _, Nat.le_refl _, rfl, rfl, (Ex.refl w), (by first | (simp; done) | (first | omega | (simp only [List.length_append, List.length_cons, List.length_nil, List.length_set, toS_length]; omega))), (by first | omega | assumption | (simp only [IntKind.wrap_i64] at *; omega)), rfl⟩
  ·rintro m21 L22 w23 ⟨x16, x17, hk24, hsz26, hl27, hl28, hf29, hln30, hv31, hI25⟩
   refine CW.sub (Sub.cons hl27 (Sub.cons hl28 (Sub.nil _))) ?_
   have hf29z := Ex.size hf29
   refine CW.seq (CW.seq (CW.region (sd rfl (yl_move rfl rfl (sd rfl (yl_gtr rfl rfl rfl (SeqR.done (tn (bcase (decide (0 < x16)) (fun hb32 => ?_) (fun hb32 => ?_))))))))))
   ·have hb32p := dec_t hb32
    refine CW.cond_t rfl hb32 (CW.skip (tn (CW.block (CW.seq (CW.region (sd rfl (yl_move rfl rfl (sd rfl (yl_rem rfl rfl rfl (by decide) (sd rfl (yl_add rfl rfl rfl ?_)))))))))))
    refine sd rfl (yl_conv Tryz.un3 Tryz.un5 rfl rfl (sd rfl (yl_buildSlice (cs := [.int .u8 (IntKind.wrap .u8 (IntKind.wrap .i64 (48 + (Int.tmod x16 10))))]) Tryz.un114 Tryz.ty5 (by decide) rfl (opvs_cons rfl opvs_nil) (by kernel_rfl) ?_)))
    intro b33 w34 hs35 hz36 hB37 hE38
    have hO39 : OwnL w34 b33 (b33 + 1) 5 1 (RF e_U8) (some ⟨b33, 0, none⟩) 1 1 ([IntKind.wrap .u8 (IntKind.wrap .i64 (48 + (Int.tmod x16 10)))] : List Int) := OwnL.of_box (S := fun _ => False) hB37 (Nat.le_refl _) (Nat.lt_succ_self _) (EncL.cons (c := [.int .u8 (IntKind.wrap .u8 (IntKind.wrap .i64 (48 + (Int.tmod x16 10))))]) rfl rfl EncL.nil) (Nat.le_of_ble_eq_true rfl) (fun h => h) (fun _ h => False.elim h)
    refine sd rfl (yl_toS Tryz.un114 Tryz.un5 Tryz.un9 rfl rfl (OwnL.rd good_U8 hO39) (sd rfl (yl_move rfl rfl ?_)))
    have hol41 : (toS ([IntKind.wrap .u8 (IntKind.wrap .i64 (48 + (Int.tmod x16 10)))] : List Int)).length ≤ 1073741824 := (okS_toS (Nat.le_of_ble_eq_true rfl))
    refine sd rfl (yl_sadd (a := (toS ([IntKind.wrap .u8 (IntKind.wrap .i64 (48 + (Int.tmod x16 10)))] : List Int))) (b := x17) rfl rfl rfl (by first | omega | (simp only [List.length_append, List.length_cons, List.length_nil, List.length_take, List.length_drop, toS_length]; omega)) (sd rfl (yl_assign rfl rfl (SeqR.done (tn (CW.region (sd rfl (yl_move rfl rfl (sd rfl (yl_quo rfl rfl rfl (by decide) (sd rfl (yl_assign rfl rfl (SeqR.done ?_)))))))))))))
    refine bn (tn ?_)
    have hB42 : B_l_markText_0 p_k (x16, x17) = .cont (IntKind.wrap .i64 (Int.tdiv x16 10), (toS ([IntKind.wrap .u8 (IntKind.wrap .i64 (48 + (Int.tmod x16 10)))] : List Int)) ++ x17) := by simp only [B_l_markText_0, hb1, hb32, cond_true, cond_false, loopE_done, loopE_ret]
    have hmu44 : (((IntKind.wrap .i64 (Int.tdiv x16 10)).toNat + 1) / 2) < (((x16).toNat + 1) / 2) := by (have hq := wtd (n := x16) (c := 10) (by decide) (by omega) (by omega); omega)
    exact ⟨m21 - 1, by omega, IntKind.wrap .i64 (Int.tdiv x16 10), (toS ([IntKind.wrap .u8 (IntKind.wrap .i64 (48 + (Int.tmod x16 10)))] : List Int)) ++ x17, (by omega), (by omega), rfl, rfl, (Ex.trans hf29 hE38), (by first | omega | (simp only [List.length_append, List.length_cons, List.length_nil, List.length_set, toS_length]; omega)), (by (have hq := wtd (n := x16) (c := 10) (by decide) (by omega) (by omega); omega)), (loopW.cont hk24 hB42).symm.trans hI25⟩
   ·have hb32p := dec_f hb32
    refine CW.cond_f rfl hb32 (CW.exit (tx (tx ?_)))
    have hB46 : B_l_markText_0 p_k (x16, x17) = .brk (x16, x17) := by simp only [B_l_markText_0, hb1, hb32, cond_true, cond_false, loopE_done, loopE_ret]
    have hL45 : loopW (B_l_markText_0 p_k) ((((p_k).toNat + 1) / 2) + 1) (p_k, ([] : Str)) = .done (x16, x17) := hI25.symm.trans (loopW.brk hk24 hB46)
    refine bx (tn (CW.seq (CW.region (sd rfl (yl_move rfl rfl (sd rfl (yl_sadd (a := ([109] : Str)) (b := x17) rfl rfl rfl (by first | omega | (simp only [List.length_append, List.length_cons, List.length_nil, List.length_take, List.length_drop, toS_length]; omega)) (sd rfl (yl_assign rfl rfl (SeqR.done (tn ?_)))))))))))
    refine CW.ret (rr rfl (.cons rfl .nil) ?_)
    have hM47 : (l_markText p_k) = (([109] : Str) ++ x17) := by simp only [l_markText, hb1, hb32, hL45, cond_true, cond_false, loopE_done, loopE_ret]
    rw [hM47]
    exact ⟨rfl, hf29⟩
set_option maxRecDepth 100000 in
set_option maxHeartbeats 2000000 in
theorem c_l_markStringS {A1 : Option Addr} {c1 : Nat} {lo1 hi1 : Nat} {w : World} (p_a : List Str) (p_k : Int) (h1 : OwnL w lo1 hi1 9 1 (RF e_Str) A1 p_a.length c1 p_a) (hrn2 : (0 ≤ lo1 ∧ lo1 ≤ hi1 ∧ hi1 ≤ w.heap.size)) (pre0 : p_k ≤ 9223372036854775807) : Cal Tryz.prog 39 #[.slice A1 p_a.length c1, .int .i64 (p_k)] w fun v w' => v = .int .i64 ((l_markStringS p_a p_k).1) ∧ OwnL w' lo1 hi1 9 1 (RF e_Str) A1 p_a.length c1 ((l_markStringS p_a p_k).2) ∧ Mut [(lo1, hi1)] w w' := by
 refine Cal.of (vs := [.slice A1 p_a.length c1, .int .i64 (p_k)]) Tryz.func39 rfl Tryz.ntmps39 rfl (CW.seq (CW.region (sd rfl (yl_assign rfl rfl (SeqR.done (tn (CW.seq (CW.seq (CW.region ?_)))))))))
 refine sd rfl (yl_assign rfl rfl (SeqR.done (tn (CW.block (CW.loop (fun m16 L17 w18 => ∃ (k3 : Nat) (x14 : Int) (x15 : List Str), m16 = p_a.length - k3 ∧ k3 ≤ p_a.length ∧ w.heap.size ≤ w18.heap.size ∧ lkp L17 0 = some (.slice A1 p_a.length c1) ∧ lkp L17 1 = some (.int .i64 (x14)) ∧ lkp L17 5 = some (.int .i64 ((k3 : Int))) ∧ OwnL w18 lo1 hi1 9 1 (RF e_Str) A1 p_a.length c1 x15 ∧ Mut [(lo1, hi1)] w w18 ∧ x14 ≤ 9223372036854775807 ∧ loopM (B_l_markStringS_0 p_a p_k) (p_a.length - k3) k3 (x14, x15) = loopM (B_l_markStringS_0 p_a p_k) (p_a.length - 0) 0 (p_k, p_a)) (p_a.length - 0) ?_ ?_)))))
 ·exact ⟨0, p_k, p_a, rfl, (by omega), Nat.le_refl _, rfl, rfl, rfl, h1, (Mut.refl (l := [(lo1, hi1)]) w), (by first | omega | assumption | (simp only [IntKind.wrap_i64] at *; omega)), rfl⟩
 ·rintro m19 L20 w21 ⟨k3, x14, x15, rfl, hk22, hsz24, hl25, hl26, hl27, hf28, hf29, hv30, hI23⟩
  refine CW.sub (Sub.cons hl25 (Sub.cons hl26 (Sub.cons hl27 (Sub.nil _)))) ?_
  have hf29z := Mut.size hf29
  have hbg31 := RdS.big (OwnL.rd good_Str hf28)
  rcases Nat.lt_or_ge k3 p_a.length with hlt33 | hlt33
  ·refine CW.seq (CW.seq (CW.region (sd rfl (yl_move rfl rfl (sd rfl (yl_move rfl rfl (sd rfl (yl_len Tryz.un22 rfl rfl (sd rfl (yl_lss rfl rfl rfl (SeqR.done (tn ?_))))))))))))
   refine CW.cond_t rfl (lt_t hlt33) (CW.skip (tn (CW.seq (CW.block (CW.seq (CW.region (sd rfl (yl_move rfl rfl (sd rfl (yl_move rfl rfl ?_))))))))))
   refine sd rfl (yl_move rfl rfl (sd rfl (yl_call Tryz.en41 rfl (opvs_cons rfl opvs_nil) (Cal.mono (c_l_markText x14 (by first | omega | assumption | (simp only [IntKind.wrap_i64] at *; omega))) ?_))))
   rintro v35 w34 ⟨rfl, hE36⟩
   have hE36z := Ex.size hE36
   have q38 := OwnL.ex good_Str hf28 hE36
   obtain ⟨eb39, eo39, ec39, eA39, eS39, ebl39, el39, eR39, eC39⟩ := RdS.atD (OwnL.rd good_Str q38) d_Str (i := k3) (by first | omega | assumption)
   obtain rfl := eR39
   have eC39 : Cells w34 eb39 (eo39 + k3 * 1) [.string (bs ((x15.getD k3 d_Str)))] := eC39
   refine sd rfl (yl_indexAddrN Tryz.un22 Tryz.ty9 rfl rfl rfl eA39 (by first | omega | assumption | (simp only [IntKind.wrap_i64] at *; omega)) ?_)
   have hrg40 := OwnL.rng q38 (i := k3) (by first | omega | assumption | (simp only [IntKind.wrap_i64] at *; omega)) eb39 (by rw [eA39]; rfl)
   refine SeqR.u rfl rfl (yl_storeF (off := eo39) (i := k3) (d := 0) (dx := d_Str) (x' := (l_markText x14)) (vs := [.string (bs ((l_markText x14)))]) Tryz.ty9 rfl q38 eA39 rfl rfl rfl rfl rfl (by first | omega | assumption | (simp only [IntKind.wrap_i64] at *; omega)) (Nat.le_of_ble_eq_true rfl) rfl rfl ?_)
   intro w41 hB42 hO43
   have hO43z := hO43.size
   refine SeqR.done (tn (CW.region (sd rfl (yl_move rfl rfl (sd rfl (yl_add rfl rfl rfl (sd rfl (yl_assign rfl rfl (SeqR.done (bn (tn ?_)))))))))))
   refine CW.region (sd rfl (yl_move rfl rfl (sd rfl (yl_inc rfl rfl rfl (by omega) (sd rfl (yl_assign rfl rfl (SeqR.done (tn ?_))))))))
   have hB44 : B_l_markStringS_0 p_a p_k k3 (x14, x15) = .cont (IntKind.wrap .i64 (x14 + 1), (x15.set k3 (l_markText x14))) := by simp only [B_l_markStringS_0, cond_true, cond_false, loopE_done, loopE_ret]
   exact ⟨p_a.length - (k3 + 1), by omega, k3 + 1, IntKind.wrap .i64 (x14 + 1), (x15.set k3 (l_markText x14)), rfl, hlt33, (by omega), rfl, rfl, rfl, hB42, (Mut.only (Mut.ex hf29 hE36) hO43 (by simp only [InR, or_false]; omega)), (by first | omega | assumption | (simp only [IntKind.wrap_i64] at *; omega)), (loopM.cont hlt33 hB44).symm.trans hI23⟩
  ·refine CW.seq (CW.seq (CW.region (sd rfl (yl_move rfl rfl (sd rfl (yl_move rfl rfl (sd rfl (yl_len Tryz.un22 rfl rfl (sd rfl (yl_lss rfl rfl rfl (SeqR.done (tn ?_))))))))))))
   refine CW.cond_f rfl (lt_f hlt33) (CW.exit (tx (tx ?_)))
   have hL47 : loopM (B_l_markStringS_0 p_a p_k) (p_a.length - 0) 0 (p_k, p_a) = .done (x14, x15) := hI23.symm.trans (loopM.stop hlt33)
   refine bx (tn (CW.seq (CW.region (sd rfl (yl_move rfl rfl (sd rfl (yl_assign rfl rfl (SeqR.done (tn (CW.ret ?_))))))))))
   refine rr rfl (.cons rfl .nil) ?_
   have hM48 : (l_markStringS p_a p_k) = ((x14, x15)) := by simp only [l_markStringS, hL47, cond_true, cond_false, loopE_done, loopE_ret]
   rw [hM48]
   exact ⟨rfl, hf28, hf29⟩
set_option maxRecDepth 100000 in
set_option maxHeartbeats 2000000 in
theorem c_l_markIdxS {A1 : Option Addr} {c1 : Nat} {lo1 hi1 : Nat} {w : World} (p_a : List DIdx) (p_k : Int) (h1 : OwnL w lo1 hi1 104 3 (RF e_Idx) A1 p_a.length c1 p_a) (hrn2 : (0 ≤ lo1 ∧ lo1 ≤ hi1 ∧ hi1 ≤ w.heap.size)) (pre0 : p_k ≤ 9223372036854775807) : Cal Tryz.prog 40 #[.slice A1 p_a.length c1, .int .i64 (p_k)] w fun v w' => v = .int .i64 ((l_markIdxS p_a p_k).1) ∧ OwnL w' lo1 hi1 104 3 (RF e_Idx) A1 p_a.length c1 ((l_markIdxS p_a p_k).2) ∧ Mut [(lo1, hi1)] w w' := by
 refine Cal.of (vs := [.slice A1 p_a.length c1, .int .i64 (p_k)]) Tryz.func40 rfl Tryz.ntmps40 rfl (CW.seq (CW.region (sd rfl (yl_assign rfl rfl (SeqR.done (tn (CW.seq (CW.seq (CW.region ?_)))))))))
 refine sd rfl (yl_assign rfl rfl (SeqR.done (tn (CW.block (CW.loop (fun m28 L29 w30 => ∃ (k3 : Nat) (x26 : Int) (x27 : List DIdx), m28 = p_a.length - k3 ∧ k3 ≤ p_a.length ∧ w.heap.size ≤ w30.heap.size ∧ lkp L29 0 = some (.slice A1 p_a.length c1) ∧ lkp L29 1 = some (.int .i64 (x26)) ∧ lkp L29 5 = some (.int .i64 ((k3 : Int))) ∧ OwnL w30 lo1 hi1 104 3 (RF e_Idx) A1 p_a.length c1 x27 ∧ Mut [(lo1, hi1)] w w30 ∧ x26 ≤ 9223372036854775807 ∧ loopM (B_l_markIdxS_0 p_a p_k) (p_a.length - k3) k3 (x26, x27) = loopM (B_l_markIdxS_0 p_a p_k) (p_a.length - 0) 0 (p_k, p_a)) (p_a.length - 0) ?_ ?_)))))
 ·exact ⟨0, p_k, p_a, rfl, (by omega), Nat.le_refl _, rfl, rfl, rfl, h1, (Mut.refl (l := [(lo1, hi1)]) w), (by first | omega | assumption | (simp only [IntKind.wrap_i64] at *; omega)), rfl⟩
 ·rintro m31 L32 w33 ⟨k3, x26, x27, rfl, hk34, hsz36, hl37, hl38, hl39, hf40, hf41, hv42, hI35⟩
  refine CW.sub (Sub.cons hl37 (Sub.cons hl38 (Sub.cons hl39 (Sub.nil _)))) ?_
  have hf41z := Mut.size hf41
  have hbg43 := RdS.big (OwnL.rd good_Idx hf40)
  rcases Nat.lt_or_ge k3 p_a.length with hlt45 | hlt45
  ·refine CW.seq (CW.seq (CW.region (sd rfl (yl_move rfl rfl (sd rfl (yl_move rfl rfl (sd rfl (yl_len Tryz.un32 rfl rfl (sd rfl (yl_lss rfl rfl rfl (SeqR.done (tn ?_))))))))))))
   refine CW.cond_t rfl (lt_t hlt45) (CW.skip (tn (CW.seq (CW.block (CW.seq (CW.region (sd rfl (yl_move rfl rfl (sd rfl (yl_move rfl rfl ?_))))))))))
   refine sd rfl (yl_move rfl rfl (sd rfl (yl_call Tryz.en41 rfl (opvs_cons rfl opvs_nil) (Cal.mono (c_l_markText x26 (by first | omega | assumption | (simp only [IntKind.wrap_i64] at *; omega))) ?_))))
   rintro v47 w46 ⟨rfl, hE48⟩
   have hE48z := Ex.size hE48
   have q50 := OwnL.ex good_Idx hf40 hE48
   obtain ⟨eb51, eo51, ec51, eA51, eS51, ebl51, el51, eR51, eC51⟩ := RdS.atD (OwnL.rd good_Idx q50) d_Idx (i := k3) (by first | omega | assumption)
   obtain rfl := eR51
   have eC51 : Cells w46 eb51 (eo51 + k3 * 3) [.string (bs ((x27.getD k3 d_Idx).Name)), .int .i64 ((x27.getD k3 d_Idx).Col), .int .i64 ((x27.getD k3 d_Idx).Stage)] := eC51
   refine sd rfl (yl_indexAddrN Tryz.un32 Tryz.ty104 rfl rfl rfl eA51 (by first | omega | assumption | (simp only [IntKind.wrap_i64] at *; omega)) (sd rfl (yl_fieldAddr Tryz.fd104_0 rfl rfl ?_)))
   have hrg52 := OwnL.rng q50 (i := k3) (by first | omega | assumption | (simp only [IntKind.wrap_i64] at *; omega)) eb51 (by rw [eA51]; rfl)
   refine SeqR.u rfl rfl (yl_storeF (off := eo51) (i := k3) (d := 0) (dx := d_Idx) (x' := (⟨(l_markText x26), (x27.getD k3 d_Idx).Col, (x27.getD k3 d_Idx).Stage⟩ : DIdx)) (vs := [.string (bs ((l_markText x26)))]) Tryz.ty9 rfl q50 eA51 rfl rfl rfl rfl rfl (by first | omega | assumption | (simp only [IntKind.wrap_i64] at *; omega)) (Nat.le_of_ble_eq_true rfl) rfl rfl ?_)
   intro w53 hB54 hO55
   have hO55z := hO55.size
   refine SeqR.done (tn (CW.seq (CW.region (sd rfl (yl_move rfl rfl (sd rfl (yl_add rfl rfl rfl (sd rfl (yl_assign rfl rfl (SeqR.done (tn ?_)))))))))))
   refine CW.seq (CW.region (sd rfl (yl_move rfl rfl (sd rfl (yl_move rfl rfl (sd rfl (yl_move rfl rfl ?_)))))))
   obtain ⟨eb57, eo57, ec57, eA57, eS57, ebl57, el57, eR57, eC57⟩ := RdS.atD (OwnL.rd good_Idx hB54) d_Idx (i := k3) (by first | omega | assumption)
   obtain rfl := eR57
   have eC57 : Cells w53 eb57 (eo57 + k3 * 3) [.string (bs (((x27.set k3 (⟨(l_markText x26), (x27.getD k3 d_Idx).Col, (x27.getD k3 d_Idx).Stage⟩ : DIdx)).getD k3 d_Idx).Name)), .int .i64 (((x27.set k3 (⟨(l_markText x26), (x27.getD k3 d_Idx).Col, (x27.getD k3 d_Idx).Stage⟩ : DIdx)).getD k3 d_Idx).Col), .int .i64 (((x27.set k3 (⟨(l_markText x26), (x27.getD k3 d_Idx).Col, (x27.getD k3 d_Idx).Stage⟩ : DIdx)).getD k3 d_Idx).Stage)] := eC57
   refine sd rfl (yl_indexAddrN Tryz.un32 Tryz.ty104 rfl rfl rfl eA57 (by first | omega | assumption | (simp only [IntKind.wrap_i64] at *; omega)) (sd rfl (yl_fieldAddr Tryz.fd104_1 rfl rfl ?_)))
   have hrg58 := OwnL.rng hB54 (i := k3) (by first | omega | assumption | (simp only [IntKind.wrap_i64] at *; omega)) eb57 (by rw [eA57]; rfl)
   refine SeqR.u rfl rfl (yl_storeF (off := eo57) (i := k3) (d := 1) (dx := d_Idx) (x' := (⟨((x27.set k3 (⟨(l_markText x26), (x27.getD k3 d_Idx).Col, (x27.getD k3 d_Idx).Stage⟩ : DIdx)).getD k3 d_Idx).Name, IntKind.wrap .i64 (x26 + 1), ((x27.set k3 (⟨(l_markText x26), (x27.getD k3 d_Idx).Col, (x27.getD k3 d_Idx).Stage⟩ : DIdx)).getD k3 d_Idx).Stage⟩ : DIdx)) (vs := [.int .i64 (IntKind.wrap .i64 (x26 + 1))]) Tryz.ty3 rfl hB54 eA57 rfl rfl rfl rfl rfl (by first | omega | assumption | (simp only [IntKind.wrap_i64] at *; omega)) (Nat.le_of_ble_eq_true rfl) rfl rfl ?_)
   intro w59 hB60 hO61
   have hO61z := hO61.size
   refine SeqR.done (tn (CW.seq (CW.region (sd rfl (yl_move rfl rfl (sd rfl (yl_add rfl rfl rfl (sd rfl (yl_assign rfl rfl (SeqR.done (tn ?_)))))))))))
   refine CW.seq (CW.region (sd rfl (yl_move rfl rfl (sd rfl (yl_move rfl rfl (sd rfl (yl_move rfl rfl ?_)))))))
   obtain ⟨eb63, eo63, ec63, eA63, eS63, ebl63, el63, eR63, eC63⟩ := RdS.atD (OwnL.rd good_Idx hB60) d_Idx (i := k3) (by first | omega | assumption)
   obtain rfl := eR63
   have eC63 : Cells w59 eb63 (eo63 + k3 * 3) [.string (bs ((((x27.set k3 (⟨(l_markText x26), (x27.getD k3 d_Idx).Col, (x27.getD k3 d_Idx).Stage⟩ : DIdx)).set k3 (⟨((x27.set k3 (⟨(l_markText x26), (x27.getD k3 d_Idx).Col, (x27.getD k3 d_Idx).Stage⟩ : DIdx)).getD k3 d_Idx).Name, IntKind.wrap .i64 (x26 + 1), ((x27.set k3 (⟨(l_markText x26), (x27.getD k3 d_Idx).Col, (x27.getD k3 d_Idx).Stage⟩ : DIdx)).getD k3 d_Idx).Stage⟩ : DIdx)).getD k3 d_Idx).Name)), .int .i64 ((((x27.set k3 (⟨(l_markText x26), (x27.getD k3 d_Idx).Col, (x27.getD k3 d_Idx).Stage⟩ : DIdx)).set k3 (⟨((x27.set k3 (⟨(l_markText x26), (x27.getD k3 d_Idx).Col, (x27.getD k3 d_Idx).Stage⟩ : DIdx)).getD k3 d_Idx).Name, IntKind.wrap .i64 (x26 + 1), ((x27.set k3 (⟨(l_markText x26), (x27.getD k3 d_Idx).Col, (x27.getD k3 d_Idx).Stage⟩ : DIdx)).getD k3 d_Idx).Stage⟩ : DIdx)).getD k3 d_Idx).Col), .int .i64 ((((x27.set k3 (⟨(l_markText x26), (x27.getD k3 d_Idx).Col, (x27.getD k3 d_Idx).Stage⟩ : DIdx)).set k3 (⟨((x27.set k3 (⟨(l_markText x26), (x27.getD k3 d_Idx).Col, (x27.getD k3 d_Idx).Stage⟩ : DIdx)).getD k3 d_Idx).Name, IntKind.wrap .i64 (x26 + 1), ((x27.set k3 (⟨(l_markText x26), (x27.getD k3 d_Idx).Col, (x27.getD k3 d_Idx).Stage⟩ : DIdx)).getD k3 d_Idx).Stage⟩ : DIdx)).getD k3 d_Idx).Stage)] := eC63
   refine sd rfl (yl_indexAddrN Tryz.un32 Tryz.ty104 rfl rfl rfl eA63 (by first | omega | assumption | (simp only [IntKind.wrap_i64] at *; omega)) (sd rfl (yl_fieldAddr Tryz.fd104_2 rfl rfl ?_)))
   have hrg64 := OwnL.rng hB60 (i := k3) (by first | omega | assumption | (simp only [IntKind.wrap_i64] at *; omega)) eb63 (by rw [eA63]; rfl)
   refine SeqR.u rfl rfl (yl_storeF (off := eo63) (i := k3) (d := 2) (dx := d_Idx) (x' := (⟨(((x27.set k3 (⟨(l_markText x26), (x27.getD k3 d_Idx).Col, (x27.getD k3 d_Idx).Stage⟩ : DIdx)).set k3 (⟨((x27.set k3 (⟨(l_markText x26), (x27.getD k3 d_Idx).Col, (x27.getD k3 d_Idx).Stage⟩ : DIdx)).getD k3 d_Idx).Name, IntKind.wrap .i64 (x26 + 1), ((x27.set k3 (⟨(l_markText x26), (x27.getD k3 d_Idx).Col, (x27.getD k3 d_Idx).Stage⟩ : DIdx)).getD k3 d_Idx).Stage⟩ : DIdx)).getD k3 d_Idx).Name, (((x27.set k3 (⟨(l_markText x26), (x27.getD k3 d_Idx).Col, (x27.getD k3 d_Idx).Stage⟩ : DIdx)).set k3 (⟨((x27.set k3 (⟨(l_markText x26), (x27.getD k3 d_Idx).Col, (x27.getD k3 d_Idx).Stage⟩ : DIdx)).getD k3 d_Idx).Name, IntKind.wrap .i64 (x26 + 1), ((x27.set k3 (⟨(l_markText x26), (x27.getD k3 d_Idx).Col, (x27.getD k3 d_Idx).Stage⟩ : DIdx)).getD k3 d_Idx).Stage⟩ : DIdx)).getD k3 d_Idx).Col, IntKind.wrap .i64 ((IntKind.wrap .i64 (x26 + 1)) + 1)⟩ : DIdx)) (vs := [.int .i64 (IntKind.wrap .i64 ((IntKind.wrap .i64 (x26 + 1)) + 1))]) Tryz.ty3 rfl hB60 eA63 rfl rfl rfl rfl rfl (by first | omega | assumption | (simp only [IntKind.wrap_i64] at *; omega)) (Nat.le_of_ble_eq_true rfl) rfl rfl ?_)
   intro w65 hB66 hO67
   have hO67z := hO67.size
   refine SeqR.done (tn (CW.region (sd rfl (yl_move rfl rfl (sd rfl (yl_add rfl rfl rfl (sd rfl (yl_assign rfl rfl (SeqR.done (bn (tn ?_)))))))))))
   refine CW.region (sd rfl (yl_move rfl rfl (sd rfl (yl_inc rfl rfl rfl (by omega) (sd rfl (yl_assign rfl rfl (SeqR.done (tn ?_))))))))
   have hB68 : B_l_markIdxS_0 p_a p_k k3 (x26, x27) = .cont (IntKind.wrap .i64 ((IntKind.wrap .i64 ((IntKind.wrap .i64 (x26 + 1)) + 1)) + 1), (((x27.set k3 (⟨(l_markText x26), (x27.getD k3 d_Idx).Col, (x27.getD k3 d_Idx).Stage⟩ : DIdx)).set k3 (⟨((x27.set k3 (⟨(l_markText x26), (x27.getD k3 d_Idx).Col, (x27.getD k3 d_Idx).Stage⟩ : DIdx)).getD k3 d_Idx).Name, IntKind.wrap .i64 (x26 + 1), ((x27.set k3 (⟨(l_markText x26), (x27.getD k3 d_Idx).Col, (x27.getD k3 d_Idx).Stage⟩ : DIdx)).getD k3 d_Idx).Stage⟩ : DIdx)).set k3 (⟨(((x27.set k3 (⟨(l_markText x26), (x27.getD k3 d_Idx).Col, (x27.getD k3 d_Idx).Stage⟩ : DIdx)).set k3 (⟨((x27.set k3 (⟨(l_markText x26), (x27.getD k3 d_Idx).Col, (x27.getD k3 d_Idx).Stage⟩ : DIdx)).getD k3 d_Idx).Name, IntKind.wrap .i64 (x26 + 1), ((x27.set k3 (⟨(l_markText x26), (x27.getD k3 d_Idx).Col, (x27.getD k3 d_Idx).Stage⟩ : DIdx)).getD k3 d_Idx).Stage⟩ : DIdx)).getD k3 d_Idx).Name, (((x27.set k3 (⟨(l_markText x26), (x27.getD k3 d_Idx).Col, (x27.getD k3 d_Idx).Stage⟩ : DIdx)).set k3 (⟨((x27.set k3 (⟨(l_markText x26), (x27.getD k3 d_Idx).Col, (x27.getD k3 d_Idx).Stage⟩ : DIdx)).getD k3 d_Idx).Name, IntKind.wrap .i64 (x26 + 1), ((x27.set k3 (⟨(l_markText x26), (x27.getD k3 d_Idx).Col, (x27.getD k3 d_Idx).Stage⟩ : DIdx)).getD k3 d_Idx).Stage⟩ : DIdx)).getD k3 d_Idx).Col, IntKind.wrap .i64 ((IntKind.wrap .i64 (x26 + 1)) + 1)⟩ : DIdx))) := by simp only [B_l_markIdxS_0, cond_true, cond_false, loopE_done, loopE_ret]
   exact ⟨p_a.length - (k3 + 1), by omega, k3 + 1, IntKind.wrap .i64 ((IntKind.wrap .i64 ((IntKind.wrap .i64 (x26 + 1)) + 1)) + 1), (((x27.set k3 (⟨(l_markText x26), (x27.getD k3 d_Idx).Col, (x27.getD k3 d_Idx).Stage⟩ : DIdx)).set k3 (⟨((x27.set k3 (⟨(l_markText x26), (x27.getD k3 d_Idx).Col, (x27.getD k3 d_Idx).Stage⟩ : DIdx)).getD k3 d_Idx).Name, IntKind.wrap .i64 (x26 + 1), ((x27.set k3 (⟨(l_markText x26), (x27.getD k3 d_Idx).Col, (x27.getD k3 d_Idx).Stage⟩ : DIdx)).getD k3 d_Idx).Stage⟩ : DIdx)).set k3 (⟨(((x27.set k3 (⟨(l_markText x26), (x27.getD k3 d_Idx).Col, (x27.getD k3 d_Idx).Stage⟩ : DIdx)).set k3 (⟨((x27.set k3 (⟨(l_markText x26), (x27.getD k3 d_Idx).Col, (x27.getD k3 d_Idx).Stage⟩ : DIdx)).getD k3 d_Idx).Name, IntKind.wrap .i64 (x26 + 1), ((x27.set k3 (⟨(l_markText x26), (x27.getD k3 d_Idx).Col, (x27.getD k3 d_Idx).Stage⟩ : DIdx)).getD k3 d_Idx).Stage⟩ : DIdx)).getD k3 d_Idx).Name, (((x27.set k3 (⟨(l_markText x26), (x27.getD k3 d_Idx).Col, (x27.getD k3 d_Idx).Stage⟩ : DIdx)).set k3 (⟨((x27.set k3 (⟨(l_markText x26), (x27.getD k3 d_Idx).Col, (x27.getD k3 d_Idx).Stage⟩ : DIdx)).getD k3 d_Idx).Name, IntKind.wrap .i64 (x26 + 1), ((x27.set k3 (⟨(l_markText x26), (x27.getD k3 d_Idx).Col, (x27.getD k3 d_Idx).Stage⟩ : DIdx)).getD k3 d_Idx).Stage⟩ : DIdx)).getD k3 d_Idx).Col, IntKind.wrap .i64 ((IntKind.wrap .i64 (x26 + 1)) + 1)⟩ : DIdx)), rfl, hlt45, (by omega), rfl, rfl, rfl, hB66, (Mut.only (Mut.only (Mut.only (Mut.ex hf41 hE48) hO55 (by simp only [InR, or_false]; omega)) hO61 (by simp only [InR, or_false]; omega)) hO67 (by simp only [InR, or_false]; omega)), (by first | omega | assumption | (simp only [IntKind.wrap_i64] at *; omega)), (loopM.cont hlt45 hB68).symm.trans hI35⟩
  ·refine CW.seq (CW.seq (CW.region (sd rfl (yl_move rfl rfl (sd rfl (yl_move rfl rfl (sd rfl (yl_len Tryz.un32 rfl rfl (sd rfl (yl_lss rfl rfl rfl (SeqR.done (tn ?_))))))))))))
   refine CW.cond_f rfl (lt_f hlt45) (CW.exit (tx (tx ?_)))
   have hL73 : loopM (B_l_markIdxS_0 p_a p_k) (p_a.length - 0) 0 (p_k, p_a) = .done (x26, x27) := hI35.symm.trans (loopM.stop hlt45)
   refine bx (tn (CW.seq (CW.region (sd rfl (yl_move rfl rfl (sd rfl (yl_assign rfl rfl (SeqR.done (tn (CW.ret ?_))))))))))
   refine rr rfl (.cons rfl .nil) ?_
   have hM74 : (l_markIdxS p_a p_k) = ((x26, x27)) := by simp only [l_markIdxS, hL73, cond_true, cond_false, loopE_done, loopE_ret]
   rw [hM74]
   exact ⟨rfl, hf40, hf41⟩
set_option maxRecDepth 100000 in
set_option maxHeartbeats 2000000 in
theorem c_l_markTable {A1 : Option Addr} {c1 : Nat} {lo1 hi1 : Nat} {A2 : Option Addr} {c2 : Nat} {lo2 hi2 : Nat} {w : World} (p_a : DTable) (p_k : Int) (h1 : OwnL w lo1 hi1 9 1 (RF e_Str) A1 p_a.Cols.length c1 p_a.Cols) (h2 : OwnL w lo2 hi2 104 3 (RF e_Idx) A2 p_a.Idxs.length c2 p_a.Idxs) (hrn3 : (0 ≤ lo1 ∧ lo1 ≤ hi1 ∧ hi1 ≤ w.heap.size)) (hrn4 : (0 ≤ lo2 ∧ lo2 ≤ hi2 ∧ hi2 ≤ w.heap.size)) (hrn5 : (hi1 ≤ lo2 ∨ hi2 ≤ lo1)) (pre0 : p_k ≤ 9223372036854775807) : Cal Tryz.prog 14 #[.agg #[.string (bs (p_a.Name)), .slice A1 p_a.Cols.length c1, .slice A2 p_a.Idxs.length c2], .int .i64 (p_k)] w fun v w' => v = .int .i64 ((l_markTable p_a p_k).1) ∧ OwnL w' lo1 hi1 9 1 (RF e_Str) A1 p_a.Cols.length c1 ((l_markTable p_a p_k).2.Cols) ∧ OwnL w' lo2 hi2 104 3 (RF e_Idx) A2 p_a.Idxs.length c2 ((l_markTable p_a p_k).2.Idxs) ∧ Mut [(lo1, hi1), (lo2, hi2)] w w' := by
 refine Cal.of (vs := [.agg #[.string (bs (p_a.Name)), .slice A1 p_a.Cols.length c1, .slice A2 p_a.Idxs.length c2], .int .i64 (p_k)]) Tryz.func14 rfl Tryz.ntmps14 rfl (CW.seq (CW.region (sd rfl (yl_box (cs := [.string (bs (p_a.Name)), .slice A1 p_a.Cols.length c1, .slice A2 p_a.Idxs.length c2]) rfl rfl rfl ?_))))
 intro b6 w7 hs8 hz9 hB10 hE11
 refine sd rfl (yl_assign rfl rfl (SeqR.done (tn (CW.seq (CW.region (sd rfl (yl_fieldAddr Tryz.fd34_1 rfl rfl (sd rfl (yl_load1 Tryz.ty22 rfl rfl ((hB10.cell 1).trans rfl) (sd rfl (yl_move rfl rfl (sd rfl (yl_call Tryz.en39 rfl (opvs_cons rfl (opvs_cons rfl opvs_nil)) (Cal.mono (c_l_markStringS p_a.Cols p_k (OwnL.ex good_Str h1 hE11) (by omega) (by first | omega | assumption | (simp only [IntKind.wrap_i64] at *; omega))) ?_))))))))))))))
 rintro v14 w13 ⟨rfl, h16, hm15⟩
 have hm15z := Mut.size hm15
 have hrf17 := rf_markStringS p_a.Cols p_k (by first | omega | assumption | (simp only [IntKind.wrap_i64] at *; omega))
 refine sd rfl (yl_assign rfl rfl (SeqR.done (tn (CW.seq (CW.region (sd rfl (yl_fieldAddr Tryz.fd34_2 rfl rfl (sd rfl (yl_load1 Tryz.ty32 rfl rfl (((Box.mut hB10 hm15 (fun k hk => by simp only [InR, or_false] at hk; omega)).cell 2).trans rfl) (sd rfl (yl_move rfl rfl (sd rfl (yl_call Tryz.en40 rfl (opvs_cons rfl (opvs_cons rfl opvs_nil)) (Cal.mono (c_l_markIdxS p_a.Idxs ((l_markStringS p_a.Cols p_k).1) (OwnL.mut good_Idx (OwnL.ex good_Idx h2 hE11) hm15 (fun k hk => by simp only [InR, or_false] at hk; omega)) (by omega) (by first | omega | assumption | (simp only [IntKind.wrap_i64] at *; omega))) ?_))))))))))))))
 rintro v22 w21 ⟨rfl, h24, hm23⟩
 have hm23z := Mut.size hm23
 have hrf25 := rf_markIdxS p_a.Idxs ((l_markStringS p_a.Cols p_k).1) (by first | omega | assumption | (simp only [IntKind.wrap_i64] at *; omega))
 refine sd rfl (yl_assign rfl rfl (SeqR.done (tn (CW.seq (CW.region (sd rfl (yl_move rfl rfl (sd rfl (yl_assign rfl rfl (SeqR.done (tn ?_)))))))))))
 refine CW.ret (rr rfl (.cons rfl .nil) ?_)
 have hM26 : (l_markTable p_a p_k) = (((l_markIdxS p_a.Idxs ((l_markStringS p_a.Cols p_k).1)).1, (⟨p_a.Name, (l_markStringS p_a.Cols p_k).2, (l_markIdxS p_a.Idxs ((l_markStringS p_a.Cols p_k).1)).2⟩ : DTable))) := by simp only [l_markTable, cond_true, cond_false, loopE_done, loopE_ret]
 rw [hM26]
 exact ⟨rfl, (OwnL.mut good_Str h16 hm23 (fun k hk => by simp only [InR, or_false] at hk; omega)), h24, (Mut.mut (Mut.mut (Mut.ex (Mut.refl (l := [(lo1, hi1), (lo2, hi2)]) w) hE11) hm15 (fun k hk => by simp only [InR, or_false] at hk ⊢; omega)) hm23 (fun k hk => by simp only [InR, or_false] at hk ⊢; omega))⟩
set_option maxRecDepth 100000 in
set_option maxHeartbeats 2000000 in
theorem c_l_markWriteS {A1 : Option Addr} {c1 : Nat} {lo1 hi1 : Nat} {w : World} (p_a : List DWrite) (p_k : Int) (h1 : OwnL w lo1 hi1 75 3 (RF e_Write) A1 p_a.length c1 p_a) (hrn2 : (0 ≤ lo1 ∧ lo1 ≤ hi1 ∧ hi1 ≤ w.heap.size)) (pre0 : p_k ≤ 9223372036854775807) : Cal Tryz.prog 15 #[.slice A1 p_a.length c1, .int .i64 (p_k)] w fun v w' => v = .int .i64 ((l_markWriteS p_a p_k).1) ∧ OwnL w' lo1 hi1 75 3 (RF e_Write) A1 p_a.length c1 ((l_markWriteS p_a p_k).2) ∧ Mut [(lo1, hi1)] w w' := by
 refine Cal.of (vs := [.slice A1 p_a.length c1, .int .i64 (p_k)]) Tryz.func15 rfl Tryz.ntmps15 rfl (CW.seq (CW.region (sd rfl (yl_assign rfl rfl (SeqR.done (tn (CW.seq (CW.seq (CW.region ?_)))))))))
 refine sd rfl (yl_assign rfl rfl (SeqR.done (tn (CW.block (CW.loop (fun m31 L32 w33 => ∃ (k3 : Nat) (x29 : Int) (x30 : List DWrite), m31 = p_a.length - k3 ∧ k3 ≤ p_a.length ∧ w.heap.size ≤ w33.heap.size ∧ lkp L32 0 = some (.slice A1 p_a.length c1) ∧ lkp L32 1 = some (.int .i64 (x29)) ∧ lkp L32 5 = some (.int .i64 ((k3 : Int))) ∧ OwnL w33 lo1 hi1 75 3 (RF e_Write) A1 p_a.length c1 x30 ∧ Mut [(lo1, hi1)] w w33 ∧ x29 ≤ 9223372036854775807 ∧ loopM (B_l_markWriteS_0 p_a p_k) (p_a.length - k3) k3 (x29, x30) = loopM (B_l_markWriteS_0 p_a p_k) (p_a.length - 0) 0 (p_k, p_a)) (p_a.length - 0) ?_ ?_)))))
 ·exact ⟨0, p_k, p_a, rfl, (by omega), Nat.le_refl _, rfl, rfl, rfl, h1, (Mut.refl (l := [(lo1, hi1)]) w), (by first | omega | assumption | (simp only [IntKind.wrap_i64] at *; omega)), rfl⟩
 ·rintro m34 L35 w36 ⟨k3, x29, x30, rfl, hk37, hsz39, hl40, hl41, hl42, hf43, hf44, hv45, hI38⟩
  refine CW.sub (Sub.cons hl40 (Sub.cons hl41 (Sub.cons hl42 (Sub.nil _)))) ?_
  have hf44z := Mut.size hf44
  have hbg46 := RdS.big (OwnL.rd good_Write hf43)
  rcases Nat.lt_or_ge k3 p_a.length with hlt48 | hlt48
  ·refine CW.seq (CW.seq (CW.region (sd rfl (yl_move rfl rfl (sd rfl (yl_move rfl rfl (sd rfl (yl_len Tryz.un36 rfl rfl (sd rfl (yl_lss rfl rfl rfl (SeqR.done (tn ?_))))))))))))
   refine CW.cond_t rfl (lt_t hlt48) (CW.skip (tn (CW.seq (CW.block (CW.seq (CW.region (sd rfl (yl_move rfl rfl (sd rfl (yl_move rfl rfl ?_))))))))))
   refine sd rfl (yl_move rfl rfl (sd rfl (yl_call Tryz.en41 rfl (opvs_cons rfl opvs_nil) (Cal.mono (c_l_markText x29 (by first | omega | assumption | (simp only [IntKind.wrap_i64] at *; omega))) ?_))))
   rintro v50 w49 ⟨rfl, hE51⟩
   have hE51z := Ex.size hE51
   have q53 := OwnL.ex good_Write hf43 hE51
   obtain ⟨eb54, eo54, ec54, eA54, eS54, ebl54, el54, eR54, eC54⟩ := RdS.atD (OwnL.rd good_Write q53) d_Write (i := k3) (by first | omega | assumption)
   obtain rfl := eR54
   have eC54 : Cells w49 eb54 (eo54 + k3 * 3) [.string (bs ((x30.getD k3 d_Write).Key)), .string (bs ((x30.getD k3 d_Write).Val)), .bool ((x30.getD k3 d_Write).Gone)] := eC54
   refine sd rfl (yl_indexAddrN Tryz.un36 Tryz.ty75 rfl rfl rfl eA54 (by first | omega | assumption | (simp only [IntKind.wrap_i64] at *; omega)) (sd rfl (yl_fieldAddr Tryz.fd75_0 rfl rfl ?_)))
   have hrg55 := OwnL.rng q53 (i := k3) (by first | omega | assumption | (simp only [IntKind.wrap_i64] at *; omega)) eb54 (by rw [eA54]; rfl)
   refine SeqR.u rfl rfl (yl_storeF (off := eo54) (i := k3) (d := 0) (dx := d_Write) (x' := (⟨(l_markText x29), (x30.getD k3 d_Write).Val, (x30.getD k3 d_Write).Gone⟩ : DWrite)) (vs := [.string (bs ((l_markText x29)))]) Tryz.ty9 rfl q53 eA54 rfl rfl rfl rfl rfl (by first | omega | assumption | (simp only [IntKind.wrap_i64] at *; omega)) (Nat.le_of_ble_eq_true rfl) rfl rfl ?_)
   intro w56 hB57 hO58
   have hO58z := hO58.size
   refine SeqR.done (tn (CW.seq (CW.region (sd rfl (yl_move rfl rfl (sd rfl (yl_add rfl rfl rfl (sd rfl (yl_assign rfl rfl (SeqR.done (tn ?_)))))))))))
   refine CW.seq (CW.region (sd rfl (yl_move rfl rfl (sd rfl (yl_move rfl rfl (sd rfl (yl_move rfl rfl (sd rfl (yl_call Tryz.en41 rfl (opvs_cons rfl opvs_nil) (Cal.mono (c_l_markText (IntKind.wrap .i64 (x29 + 1)) (by first | omega | assumption | (simp only [IntKind.wrap_i64] at *; omega))) ?_))))))))))
   rintro v60 w59 ⟨rfl, hE61⟩
   have hE61z := Ex.size hE61
   have q63 := OwnL.ex good_Write hB57 hE61
   obtain ⟨eb64, eo64, ec64, eA64, eS64, ebl64, el64, eR64, eC64⟩ := RdS.atD (OwnL.rd good_Write q63) d_Write (i := k3) (by first | omega | assumption)
   obtain rfl := eR64
   have eC64 : Cells w59 eb64 (eo64 + k3 * 3) [.string (bs (((x30.set k3 (⟨(l_markText x29), (x30.getD k3 d_Write).Val, (x30.getD k3 d_Write).Gone⟩ : DWrite)).getD k3 d_Write).Key)), .string (bs (((x30.set k3 (⟨(l_markText x29), (x30.getD k3 d_Write).Val, (x30.getD k3 d_Write).Gone⟩ : DWrite)).getD k3 d_Write).Val)), .bool (((x30.set k3 (⟨(l_markText x29), (x30.getD k3 d_Write).Val, (x30.getD k3 d_Write).Gone⟩ : DWrite)).getD k3 d_Write).Gone)] := eC64
   refine sd rfl (yl_indexAddrN Tryz.un36 Tryz.ty75 rfl rfl rfl eA64 (by first | omega | assumption | (simp only [IntKind.wrap_i64] at *; omega)) (sd rfl (yl_fieldAddr Tryz.fd75_1 rfl rfl ?_)))
   have hrg65 := OwnL.rng q63 (i := k3) (by first | omega | assumption | (simp only [IntKind.wrap_i64] at *; omega)) eb64 (by rw [eA64]; rfl)
   refine SeqR.u rfl rfl (yl_storeF (off := eo64) (i := k3) (d := 1) (dx := d_Write) (x' := (⟨((x30.set k3 (⟨(l_markText x29), (x30.getD k3 d_Write).Val, (x30.getD k3 d_Write).Gone⟩ : DWrite)).getD k3 d_Write).Key, (l_markText (IntKind.wrap .i64 (x29 + 1))), ((x30.set k3 (⟨(l_markText x29), (x30.getD k3 d_Write).Val, (x30.getD k3 d_Write).Gone⟩ : DWrite)).getD k3 d_Write).Gone⟩ : DWrite)) (vs := [.string (bs ((l_markText (IntKind.wrap .i64 (x29 + 1)))))]) Tryz.ty9 rfl q63 eA64 rfl rfl rfl rfl rfl (by first | omega | assumption | (simp only [IntKind.wrap_i64] at *; omega)) (Nat.le_of_ble_eq_true rfl) rfl rfl ?_)
   intro w66 hB67 hO68
   have hO68z := hO68.size
   refine SeqR.done (tn (CW.seq (CW.region (sd rfl (yl_move rfl rfl (sd rfl (yl_add rfl rfl rfl (sd rfl (yl_assign rfl rfl (SeqR.done (tn ?_)))))))))))
   refine CW.seq (CW.region (sd rfl (yl_move rfl rfl (sd rfl (yl_move rfl rfl (sd rfl (yl_move rfl rfl (sd rfl (yl_rem rfl rfl rfl (by decide) (sd rfl (yl_eql rfl rfl rfl ?_)))))))))))
   obtain ⟨eb70, eo70, ec70, eA70, eS70, ebl70, el70, eR70, eC70⟩ := RdS.atD (OwnL.rd good_Write hB67) d_Write (i := k3) (by first | omega | assumption)
   obtain rfl := eR70
   have eC70 : Cells w66 eb70 (eo70 + k3 * 3) [.string (bs ((((x30.set k3 (⟨(l_markText x29), (x30.getD k3 d_Write).Val, (x30.getD k3 d_Write).Gone⟩ : DWrite)).set k3 (⟨((x30.set k3 (⟨(l_markText x29), (x30.getD k3 d_Write).Val, (x30.getD k3 d_Write).Gone⟩ : DWrite)).getD k3 d_Write).Key, (l_markText (IntKind.wrap .i64 (x29 + 1))), ((x30.set k3 (⟨(l_markText x29), (x30.getD k3 d_Write).Val, (x30.getD k3 d_Write).Gone⟩ : DWrite)).getD k3 d_Write).Gone⟩ : DWrite)).getD k3 d_Write).Key)), .string (bs ((((x30.set k3 (⟨(l_markText x29), (x30.getD k3 d_Write).Val, (x30.getD k3 d_Write).Gone⟩ : DWrite)).set k3 (⟨((x30.set k3 (⟨(l_markText x29), (x30.getD k3 d_Write).Val, (x30.getD k3 d_Write).Gone⟩ : DWrite)).getD k3 d_Write).Key, (l_markText (IntKind.wrap .i64 (x29 + 1))), ((x30.set k3 (⟨(l_markText x29), (x30.getD k3 d_Write).Val, (x30.getD k3 d_Write).Gone⟩ : DWrite)).getD k3 d_Write).Gone⟩ : DWrite)).getD k3 d_Write).Val)), .bool ((((x30.set k3 (⟨(l_markText x29), (x30.getD k3 d_Write).Val, (x30.getD k3 d_Write).Gone⟩ : DWrite)).set k3 (⟨((x30.set k3 (⟨(l_markText x29), (x30.getD k3 d_Write).Val, (x30.getD k3 d_Write).Gone⟩ : DWrite)).getD k3 d_Write).Key, (l_markText (IntKind.wrap .i64 (x29 + 1))), ((x30.set k3 (⟨(l_markText x29), (x30.getD k3 d_Write).Val, (x30.getD k3 d_Write).Gone⟩ : DWrite)).getD k3 d_Write).Gone⟩ : DWrite)).getD k3 d_Write).Gone)] := eC70
   refine sd rfl (yl_indexAddrN Tryz.un36 Tryz.ty75 rfl rfl rfl eA70 (by first | omega | assumption | (simp only [IntKind.wrap_i64] at *; omega)) (sd rfl (yl_fieldAddr Tryz.fd75_2 rfl rfl ?_)))
   have hrg71 := OwnL.rng hB67 (i := k3) (by first | omega | assumption | (simp only [IntKind.wrap_i64] at *; omega)) eb70 (by rw [eA70]; rfl)
   refine SeqR.u rfl rfl (yl_storeF (off := eo70) (i := k3) (d := 2) (dx := d_Write) (x' := (⟨(((x30.set k3 (⟨(l_markText x29), (x30.getD k3 d_Write).Val, (x30.getD k3 d_Write).Gone⟩ : DWrite)).set k3 (⟨((x30.set k3 (⟨(l_markText x29), (x30.getD k3 d_Write).Val, (x30.getD k3 d_Write).Gone⟩ : DWrite)).getD k3 d_Write).Key, (l_markText (IntKind.wrap .i64 (x29 + 1))), ((x30.set k3 (⟨(l_markText x29), (x30.getD k3 d_Write).Val, (x30.getD k3 d_Write).Gone⟩ : DWrite)).getD k3 d_Write).Gone⟩ : DWrite)).getD k3 d_Write).Key, (((x30.set k3 (⟨(l_markText x29), (x30.getD k3 d_Write).Val, (x30.getD k3 d_Write).Gone⟩ : DWrite)).set k3 (⟨((x30.set k3 (⟨(l_markText x29), (x30.getD k3 d_Write).Val, (x30.getD k3 d_Write).Gone⟩ : DWrite)).getD k3 d_Write).Key, (l_markText (IntKind.wrap .i64 (x29 + 1))), ((x30.set k3 (⟨(l_markText x29), (x30.getD k3 d_Write).Val, (x30.getD k3 d_Write).Gone⟩ : DWrite)).getD k3 d_Write).Gone⟩ : DWrite)).getD k3 d_Write).Val, decide ((Int.tmod (IntKind.wrap .i64 ((IntKind.wrap .i64 (x29 + 1)) + 1)) 3) = 0)⟩ : DWrite)) (vs := [.bool (decide ((Int.tmod (IntKind.wrap .i64 ((IntKind.wrap .i64 (x29 + 1)) + 1)) 3) = 0))]) Tryz.ty4 rfl hB67 eA70 rfl rfl rfl rfl rfl (by first | omega | assumption | (simp only [IntKind.wrap_i64] at *; omega)) (Nat.le_of_ble_eq_true rfl) rfl rfl ?_)
   intro w72 hB73 hO74
   have hO74z := hO74.size
   refine SeqR.done (tn (CW.region (sd rfl (yl_move rfl rfl (sd rfl (yl_add rfl rfl rfl (sd rfl (yl_assign rfl rfl (SeqR.done (bn (tn ?_)))))))))))
   refine CW.region (sd rfl (yl_move rfl rfl (sd rfl (yl_inc rfl rfl rfl (by omega) (sd rfl (yl_assign rfl rfl (SeqR.done (tn ?_))))))))
   have hB75 : B_l_markWriteS_0 p_a p_k k3 (x29, x30) = .cont (IntKind.wrap .i64 ((IntKind.wrap .i64 ((IntKind.wrap .i64 (x29 + 1)) + 1)) + 1), (((x30.set k3 (⟨(l_markText x29), (x30.getD k3 d_Write).Val, (x30.getD k3 d_Write).Gone⟩ : DWrite)).set k3 (⟨((x30.set k3 (⟨(l_markText x29), (x30.getD k3 d_Write).Val, (x30.getD k3 d_Write).Gone⟩ : DWrite)).getD k3 d_Write).Key, (l_markText (IntKind.wrap .i64 (x29 + 1))), ((x30.set k3 (⟨(l_markText x29), (x30.getD k3 d_Write).Val, (x30.getD k3 d_Write).Gone⟩ : DWrite)).getD k3 d_Write).Gone⟩ : DWrite)).set k3 (⟨(((x30.set k3 (⟨(l_markText x29), (x30.getD k3 d_Write).Val, (x30.getD k3 d_Write).Gone⟩ : DWrite)).set k3 (⟨((x30.set k3 (⟨(l_markText x29), (x30.getD k3 d_Write).Val, (x30.getD k3 d_Write).Gone⟩ : DWrite)).getD k3 d_Write).Key, (l_markText (IntKind.wrap .i64 (x29 + 1))), ((x30.set k3 (⟨(l_markText x29), (x30.getD k3 d_Write).Val, (x30.getD k3 d_Write).Gone⟩ : DWrite)).getD k3 d_Write).Gone⟩ : DWrite)).getD k3 d_Write).Key, (((x30.set k3 (⟨(l_markText x29), (x30.getD k3 d_Write).Val, (x30.getD k3 d_Write).Gone⟩ : DWrite)).set k3 (⟨((x30.set k3 (⟨(l_markText x29), (x30.getD k3 d_Write).Val, (x30.getD k3 d_Write).Gone⟩ : DWrite)).getD k3 d_Write).Key, (l_markText (IntKind.wrap .i64 (x29 + 1))), ((x30.set k3 (⟨(l_markText x29), (x30.getD k3 d_Write).Val, (x30.getD k3 d_Write).Gone⟩ : DWrite)).getD k3 d_Write).Gone⟩ : DWrite)).getD k3 d_Write).Val, decide ((Int.tmod (IntKind.wrap .i64 ((IntKind.wrap .i64 (x29 + 1)) + 1)) 3) = 0)⟩ : DWrite))) := by simp only [B_l_markWriteS_0, cond_true, cond_false, loopE_done, loopE_ret]
   exact ⟨p_a.length - (k3 + 1), by omega, k3 + 1, IntKind.wrap .i64 ((IntKind.wrap .i64 ((IntKind.wrap .i64 (x29 + 1)) + 1)) + 1), (((x30.set k3 (⟨(l_markText x29), (x30.getD k3 d_Write).Val, (x30.getD k3 d_Write).Gone⟩ : DWrite)).set k3 (⟨((x30.set k3 (⟨(l_markText x29), (x30.getD k3 d_Write).Val, (x30.getD k3 d_Write).Gone⟩ : DWrite)).getD k3 d_Write).Key, (l_markText (IntKind.wrap .i64 (x29 + 1))), ((x30.set k3 (⟨(l_markText x29), (x30.getD k3 d_Write).Val, (x30.getD k3 d_Write).Gone⟩ : DWrite)).getD k3 d_Write).Gone⟩ : DWrite)).set k3 (⟨(((x30.set k3 (⟨(l_markText x29), (x30.getD k3 d_Write).Val, (x30.getD k3 d_Write).Gone⟩ : DWrite)).set k3 (⟨((x30.set k3 (⟨(l_markText x29), (x30.getD k3 d_Write).Val, (x30.getD k3 d_Write).Gone⟩ : DWrite)).getD k3 d_Write).Key, (l_markText (IntKind.wrap .i64 (x29 + 1))), ((x30.set k3 (⟨(l_markText x29), (x30.getD k3 d_Write).Val, (x30.getD k3 d_Write).Gone⟩ : DWrite)).getD k3 d_Write).Gone⟩ : DWrite)).getD k3 d_Write).Key, (((x30.set k3 (⟨(l_markText x29), (x30.getD k3 d_Write).Val, (x30.getD k3 d_Write).Gone⟩ : DWrite)).set k3 (⟨((x30.set k3 (⟨(l_markText x29), (x30.getD k3 d_Write).Val, (x30.getD k3 d_Write).Gone⟩ : DWrite)).getD k3 d_Write).Key, (l_markText (IntKind.wrap .i64 (x29 + 1))), ((x30.set k3 (⟨(l_markText x29), (x30.getD k3 d_Write).Val, (x30.getD k3 d_Write).Gone⟩ : DWrite)).getD k3 d_Write).Gone⟩ : DWrite)).getD k3 d_Write).Val, decide ((Int.tmod (IntKind.wrap .i64 ((IntKind.wrap .i64 (x29 + 1)) + 1)) 3) = 0)⟩ : DWrite)), rfl, hlt48, (by omega), rfl, rfl, rfl, hB73, (Mut.only (Mut.only (Mut.ex (Mut.only (Mut.ex hf44 hE51) hO58 (by simp only [InR, or_false]; omega)) hE61) hO68 (by simp only [InR, or_false]; omega)) hO74 (by simp only [InR, or_false]; omega)), (by first | omega | assumption | (simp only [IntKind.wrap_i64] at *; omega)), (loopM.cont hlt48 hB75).symm.trans hI38⟩
  ·refine CW.seq (CW.seq (CW.region (sd rfl (yl_move rfl rfl (sd rfl (yl_move rfl rfl (sd rfl (yl_len Tryz.un36 rfl rfl (sd rfl (yl_lss rfl rfl rfl (SeqR.done (tn ?_))))))))))))
   refine CW.cond_f rfl (lt_f hlt48) (CW.exit (tx (tx ?_)))
   have hL81 : loopM (B_l_markWriteS_0 p_a p_k) (p_a.length - 0) 0 (p_k, p_a) = .done (x29, x30) := hI38.symm.trans (loopM.stop hlt48)
   refine bx (tn (CW.seq (CW.region (sd rfl (yl_move rfl rfl (sd rfl (yl_assign rfl rfl (SeqR.done (tn (CW.ret ?_))))))))))
   refine rr rfl (.cons rfl .nil) ?_
   have hM82 : (l_markWriteS p_a p_k) = ((x29, x30)) := by simp only [l_markWriteS, hL81, cond_true, cond_false, loopE_done, loopE_ret]
   rw [hM82]
   exact ⟨rfl, hf43, hf44⟩
set_option maxRecDepth 100000 in
set_option maxHeartbeats 2000000 in
theorem c_l_markRowS {A1 : Option Addr} {c1 : Nat} {lo1 hi1 : Nat} {w : World} (p_a : List DRow) (p_k : Int) (h1 : OwnD w lo1 hi1 80 1 RO_Row A1 p_a.length c1 p_a) (hrn2 : (0 ≤ lo1 ∧ lo1 ≤ hi1 ∧ hi1 ≤ w.heap.size)) (pre0 : p_k ≤ 9223372036854775807) : Cal Tryz.prog 16 #[.slice A1 p_a.length c1, .int .i64 (p_k)] w fun v w' => v = .int .i64 ((l_markRowS p_a p_k).1) ∧ OwnD w' lo1 hi1 80 1 RO_Row A1 p_a.length c1 ((l_markRowS p_a p_k).2) ∧ Mut [(lo1, hi1)] w w' := by
 refine Cal.of (vs := [.slice A1 p_a.length c1, .int .i64 (p_k)]) Tryz.func16 rfl Tryz.ntmps16 rfl (CW.seq (CW.region (sd rfl (yl_assign rfl rfl (SeqR.done (tn (CW.seq (CW.seq (CW.region ?_)))))))))
 refine sd rfl (yl_assign rfl rfl (SeqR.done (tn (CW.block (CW.loop (fun m15 L16 w17 => ∃ (k3 : Nat) (x13 : Int) (x14 : List DRow), m15 = p_a.length - k3 ∧ k3 ≤ p_a.length ∧ w.heap.size ≤ w17.heap.size ∧ lkp L16 0 = some (.slice A1 p_a.length c1) ∧ lkp L16 1 = some (.int .i64 (x13)) ∧ lkp L16 5 = some (.int .i64 ((k3 : Int))) ∧ OwnD w17 lo1 hi1 80 1 RO_Row A1 p_a.length c1 x14 ∧ Mut [(lo1, hi1)] w w17 ∧ x13 ≤ 9223372036854775807 ∧ loopM (B_l_markRowS_0 p_a p_k) (p_a.length - k3) k3 (x13, x14) = loopM (B_l_markRowS_0 p_a p_k) (p_a.length - 0) 0 (p_k, p_a)) (p_a.length - 0) ?_ ?_)))))
 ·exact ⟨0, p_k, p_a, rfl, (by omega), Nat.le_refl _, rfl, rfl, rfl, h1, (Mut.refl (l := [(lo1, hi1)]) w), (by first | omega | assumption | (simp only [IntKind.wrap_i64] at *; omega)), rfl⟩
 ·rintro m18 L19 w20 ⟨k3, x13, x14, rfl, hk21, hsz23, hl24, hl25, hl26, hf27, hf28, hv29, hI22⟩
  refine CW.sub (Sub.cons hl24 (Sub.cons hl25 (Sub.cons hl26 (Sub.nil _)))) ?_
  have hf28z := Mut.size hf28
  have hbg30 := RdS.big (OwnL.rd good_Row (OwnD.own goodO_Row good_Row hf27))
  rcases Nat.lt_or_ge k3 p_a.length with hlt32 | hlt32
  ·refine CW.seq (CW.seq (CW.region (sd rfl (yl_move rfl rfl (sd rfl (yl_move rfl rfl (sd rfl (yl_len Tryz.un29 rfl rfl (sd rfl (yl_lss rfl rfl rfl (SeqR.done (tn ?_))))))))))))
   refine CW.cond_t rfl (lt_t hlt32) (CW.skip (tn (CW.seq (CW.block (CW.region (sd rfl (yl_move rfl rfl (sd rfl (yl_move rfl rfl ?_)))))))))
   obtain ⟨dg33, dl33, dh33, _, dA33, dr33, ds33, dx33, dlh33, ⟨A34, c34, lo34, hi34, rfl, h34, hrn35⟩, dR33⟩ := OwnD.open d_Row (i := k3) hf27 (by first | omega | assumption | (simp only [IntKind.wrap_i64] at *; omega))
   refine sd rfl (yl_indexAddrN Tryz.un29 Tryz.ty80 rfl rfl rfl dA33 (by first | omega | assumption | (simp only [IntKind.wrap_i64] at *; omega)) (sd rfl (yl_fieldAddr Tryz.fd80_0 rfl rfl (sd rfl (yl_load1 Tryz.ty22 rfl rfl ((OwnR.cells' dA33 dR33) 0 _ rfl) (sd rfl (yl_move rfl rfl (sd rfl (yl_call Tryz.en39 rfl (opvs_cons rfl (opvs_cons rfl opvs_nil)) (Cal.mono (c_l_markStringS ((x14.getD k3 d_Row).Vals) x13 h34 (by omega) (by first | omega | assumption | (simp only [IntKind.wrap_i64] at *; omega))) ?_))))))))))
   rintro v37 w36 ⟨rfl, h39, hm38⟩
   have hm38z := Mut.size hm38
   have hrf40 := rf_markStringS ((x14.getD k3 d_Row).Vals) x13 (by first | omega | assumption | (simp only [IntKind.wrap_i64] at *; omega))
   refine sd rfl (yl_assign rfl rfl (SeqR.done (bn (tn (CW.region (sd rfl (yl_move rfl rfl (sd rfl (yl_inc rfl rfl rfl (by omega) (sd rfl (yl_assign rfl rfl (SeqR.done ?_))))))))))))
   refine tn ?_
   have hB41 : B_l_markRowS_0 p_a p_k k3 (x13, x14) = .cont ((l_markStringS ((x14.getD k3 d_Row).Vals) x13).1, (x14.set k3 (⟨(l_markStringS ((x14.getD k3 d_Row).Vals) x13).2⟩ : DRow))) := by simp only [B_l_markRowS_0, cond_true, cond_false, loopE_done, loopE_ret]
   exact ⟨p_a.length - (k3 + 1), by omega, k3 + 1, (l_markStringS ((x14.getD k3 d_Row).Vals) x13).1, (x14.set k3 (⟨(l_markStringS ((x14.getD k3 d_Row).Vals) x13).2⟩ : DRow)), rfl, hlt32, (by omega), rfl, rfl, rfl, (OwnR.close (OwnR.mut goodO_Row dR33 hm38 (fun k hk => by simp only [InR, or_false] at hk; omega)) (mkO_Row (l := dl33) (h := dh33) h39 (by omega))), (Mut.mut hf28 hm38 (fun k hk => by simp only [InR, or_false] at hk ⊢; omega)), (by first | omega | assumption | (simp only [IntKind.wrap_i64] at *; omega)), (loopM.cont hlt32 hB41).symm.trans hI22⟩
  ·refine CW.seq (CW.seq (CW.region (sd rfl (yl_move rfl rfl (sd rfl (yl_move rfl rfl (sd rfl (yl_len Tryz.un29 rfl rfl (sd rfl (yl_lss rfl rfl rfl (SeqR.done (tn ?_))))))))))))
   refine CW.cond_f rfl (lt_f hlt32) (CW.exit (tx (tx ?_)))
   have hL44 : loopM (B_l_markRowS_0 p_a p_k) (p_a.length - 0) 0 (p_k, p_a) = .done (x13, x14) := hI22.symm.trans (loopM.stop hlt32)
   refine bx (tn (CW.seq (CW.region (sd rfl (yl_move rfl rfl (sd rfl (yl_assign rfl rfl (SeqR.done (tn (CW.ret ?_))))))))))
   refine rr rfl (.cons rfl .nil) ?_
   have hM45 : (l_markRowS p_a p_k) = ((x13, x14)) := by simp only [l_markRowS, hL44, cond_true, cond_false, loopE_done, loopE_ret]
   rw [hM45]
   exact ⟨rfl, hf27, hf28⟩
set_option maxRecDepth 100000 in
set_option maxHeartbeats 2000000 in
theorem c_l_heldStringS {A1 : Option Addr} {c1 : Nat} {w : World} (p_a : List Str) (p_k : Int) (h1 : RdS w (Iv 0 w.heap.size) (RF e_Str) 1 A1 p_a.length c1 p_a) (pre0 : p_k ≤ 9223372036854775807) : Cal Tryz.prog 42 #[.slice A1 p_a.length c1, .int .i64 (p_k)] w fun v w' => v = .int .i64 ((l_heldStringS p_a p_k)) ∧ Ex w w' := by
 refine Cal.of (vs := [.slice A1 p_a.length c1, .int .i64 (p_k)]) Tryz.func42 rfl Tryz.ntmps42 rfl (CW.seq (CW.region (sd rfl (yl_assign rfl rfl (SeqR.done (tn (CW.seq (CW.seq (CW.region ?_)))))))))
 refine sd rfl (yl_assign rfl rfl (SeqR.done (tn (CW.block (CW.loop (fun m4 L5 w6 => ∃ (k2 : Nat) (x3 : Int), m4 = p_a.length - k2 ∧ k2 ≤ p_a.length ∧ w.heap.size ≤ w6.heap.size ∧ lkp L5 0 = some (.slice A1 p_a.length c1) ∧ lkp L5 1 = some (.int .i64 (x3)) ∧ lkp L5 5 = some (.int .i64 ((k2 : Int))) ∧ RdS w6 (Iv 0 w.heap.size) (RF e_Str) 1 A1 p_a.length c1 p_a ∧ Ex w w6 ∧ x3 ≤ 9223372036854775807 ∧ loopM (B_l_heldStringS_0 p_a p_k) (p_a.length - k2) k2 (x3) = loopM (B_l_heldStringS_0 p_a p_k) (p_a.length - 0) 0 (p_k)) (p_a.length - 0) ?_ ?_)))))
 ·exact ⟨0, p_k, rfl, (by omega), Nat.le_refl _, rfl, rfl, rfl, h1, (Ex.refl w), (by first | omega | assumption | (simp only [IntKind.wrap_i64] at *; omega)), rfl⟩
 ·rintro m7 L8 w9 ⟨k2, x3, rfl, hk10, hsz12, hl13, hl14, hl15, hf16, hf17, hv18, hI11⟩
  refine CW.sub (Sub.cons hl13 (Sub.cons hl14 (Sub.cons hl15 (Sub.nil _)))) ?_
  have hf17z := Ex.size hf17
  have hbg19 := RdS.big hf16
  rcases Nat.lt_or_ge k2 p_a.length with hlt20 | hlt20
  ·refine CW.seq (CW.seq (CW.region (sd rfl (yl_move rfl rfl (sd rfl (yl_move rfl rfl (sd rfl (yl_len Tryz.un22 rfl rfl (sd rfl (yl_lss rfl rfl rfl (SeqR.done (tn ?_))))))))))))
   refine CW.cond_t rfl (lt_t hlt20) (CW.skip (tn (CW.seq (CW.block (CW.seq (CW.seq ?_))))))
   obtain ⟨eb21, eo21, ec21, eA21, eS21, ebl21, el21, eR21, eC21⟩ := RdS.atD hf16 d_Str (i := k2) (by first | omega | assumption)
   obtain rfl := eR21
   have eC21 : Cells w9 eb21 (eo21 + k2 * 1) [.string (bs ((p_a.getD k2 d_Str)))] := eC21
   refine CW.drawsI 7 (vgetI [DetI (.slice A1 p_a.length c1), DetI (.int .i64 ((k2 : Int))), DetI (.pointer (some ⟨eb21, eo21 + k2 * 1, none⟩)), DetI (.string (bs ((p_a.getD k2 d_Str)))), DetI (.int .i64 (x3)), DetI (.string (bs ((l_markText x3)))), DetI (.bool (!((p_a.getD k2 d_Str) == (l_markText x3))))]) Tryz.follows rfl rfl rfl rfl rfl rfl (vgetI_stable ⟨StableI.det _, StableI.det _, StableI.det _, StableI.det _, StableI.det _, StableI.det _, StableI.det _, trivial⟩) ⟨?_, ?_, ?_, ?_, ?_, ?_, ?_, trivial⟩ ?_
   ·exact fun _ _ h => os rfl ((yl_move rfl (h.old 0 _ rfl rfl) kI))
   ·exact fun _ _ h => os rfl ((yl_move rfl (h.old 5 _ rfl rfl) kI))
   ·intro L33 w34 hi35
    have hE36 := hi35.ex
    have hE36z := Ex.size hE36
    exact os rfl ((yl_indexAddrN Tryz.un22 Tryz.ty9 rfl (hi35.dt 0 12 rfl rfl rfl) (hi35.dt 1 13 rfl rfl rfl) eA21 (by first | omega | assumption | (simp only [IntKind.wrap_i64] at *; omega)) kI))
   ·exact fun _ _ h => os rfl ((yl_load1 Tryz.ty9 rfl (h.dt 2 14 rfl rfl rfl) ((Cells.ex eC21 h.ex) 0 _ rfl) kI))
   ·exact fun _ _ h => os rfl ((yl_move rfl (h.old 1 _ rfl rfl) kI))
   ·intro L50 w51 hi52
    have hE53 := hi52.ex
    have hE53z := Ex.size hE53
    refine OpR.op' rfl (yl_call Tryz.en41 rfl (opvs_cons (hi52.dt 4 16 rfl rfl rfl) opvs_nil) (Cal.mono (c_l_markText x3 (by first | omega | assumption | (simp only [IntKind.wrap_i64] at *; omega))) ?_))
    rintro v56 w55 ⟨rfl, hE57⟩
    exact ⟨rfl, hE57⟩
   ·exact fun _ _ h => os rfl ((yl_sneq (a := (p_a.getD k2 d_Str)) (b := (l_markText x3)) rfl (h.dt 3 15 rfl rfl rfl) (h.dt 5 17 rfl rfl rfl) kI))
   ·intro fl67 fh68 L64 w65 hp66
    have hE69 := hp66.ex
    have hE69z := Ex.size hE69
    refine SeqR.done (tn (CW.sub (Sub.cons (d := 0) (hp66.old 0 _ rfl rfl) (Sub.cons (d := 1) (hp66.old 1 _ rfl rfl) (Sub.cons (d := 5) (hp66.old 5 _ rfl rfl) (Sub.cons (d := 18) (hp66.nt 6 18 rfl rfl rfl) (Sub.nil _))))) (bcase ((p_a.getD k2 d_Str) == (l_markText x3)) (fun hb74 => ?_) (fun hb74 => ?_))))
    ·refine CW.cond_f rfl (not_t hb74) (CW.skip (tn (CW.region (sd rfl (yl_move rfl rfl (sd rfl (yl_add rfl rfl rfl (sd rfl (yl_assign rfl rfl (SeqR.done (bn ?_)))))))))))
     refine tn (CW.region (sd rfl (yl_move rfl rfl (sd rfl (yl_inc rfl rfl rfl (by omega) (sd rfl (yl_assign rfl rfl (SeqR.done (tn ?_)))))))))
     have hB75 : B_l_heldStringS_0 p_a p_k k2 (x3) = .cont (IntKind.wrap .i64 (x3 + 1)) := by simp only [B_l_heldStringS_0, hb74, cond_true, cond_false, loopE_done, loopE_ret]
     exact ⟨p_a.length - (k2 + 1), by omega, k2 + 1, IntKind.wrap .i64 (x3 + 1), rfl, hlt20, (by omega), rfl, rfl, rfl, (RdS.ex good_Str hf16 hE69), (Ex.trans hf17 hE69), (by first | omega | assumption | (simp only [IntKind.wrap_i64] at *; omega)), (loopM.cont hlt20 hB75).symm.trans hI11⟩
    ·refine CW.cond_t rfl (not_f hb74) (CW.seq (CW.region (sd rfl (yl_assign rfl rfl (SeqR.done (tn (CW.ret (tr (br ?_)))))))))
     refine tr (tr ?_)
     have hB79 : B_l_heldStringS_0 p_a p_k k2 (x3) = .ret (-1) := by simp only [B_l_heldStringS_0, hb74, cond_true, cond_false, loopE_done, loopE_ret]
     have hL78 : loopM (B_l_heldStringS_0 p_a p_k) (p_a.length - 0) 0 (p_k) = .ret (-1) := hI11.symm.trans (loopM.ret hlt20 hB79)
     refine br (tr (rr rfl (.cons rfl .nil) ?_))
     have hM80 : (l_heldStringS p_a p_k) = (-1) := by simp only [l_heldStringS, hb74, hL78, cond_true, cond_false, loopE_done, loopE_ret]
     rw [hM80]
     exact ⟨rfl, (Ex.trans hf17 hE69)⟩
  ·refine CW.seq (CW.seq (CW.region (sd rfl (yl_move rfl rfl (sd rfl (yl_move rfl rfl (sd rfl (yl_len Tryz.un22 rfl rfl (sd rfl (yl_lss rfl rfl rfl (SeqR.done (tn ?_))))))))))))
   refine CW.cond_f rfl (lt_f hlt20) (CW.exit (tx (tx ?_)))
   have hL82 : loopM (B_l_heldStringS_0 p_a p_k) (p_a.length - 0) 0 (p_k) = .done (x3) := hI11.symm.trans (loopM.stop hlt20)
   refine bx (tn (CW.seq (CW.region (sd rfl (yl_move rfl rfl (sd rfl (yl_assign rfl rfl (SeqR.done (tn (CW.ret ?_))))))))))
   refine rr rfl (.cons rfl .nil) ?_
   have hM83 : (l_heldStringS p_a p_k) = (x3) := by simp only [l_heldStringS, hL82, cond_true, cond_false, loopE_done, loopE_ret]
   rw [hM83]
   exact ⟨rfl, hf17⟩
set_option maxRecDepth 100000 in
set_option maxHeartbeats 2000000 in
theorem c_l_heldRowS {A1 : Option Addr} {c1 : Nat} {w : World} (p_a : List DRow) (p_k : Int) (h1 : RdS w (Iv 0 w.heap.size) R_Row 1 A1 p_a.length c1 p_a) (pre0 : p_k ≤ 9223372036854775807) : Cal Tryz.prog 17 #[.slice A1 p_a.length c1, .int .i64 (p_k)] w fun v w' => v = .int .i64 ((l_heldRowS p_a p_k)) ∧ Ex w w' := by
 refine Cal.of (vs := [.slice A1 p_a.length c1, .int .i64 (p_k)]) Tryz.func17 rfl Tryz.ntmps17 rfl (CW.seq (CW.region (sd rfl (yl_assign rfl rfl (SeqR.done (tn (CW.seq (CW.seq (CW.region ?_)))))))))
 refine sd rfl (yl_assign rfl rfl (SeqR.done (tn (CW.block (CW.loop (fun m4 L5 w6 => ∃ (k2 : Nat) (x3 : Int), m4 = p_a.length - k2 ∧ k2 ≤ p_a.length ∧ w.heap.size ≤ w6.heap.size ∧ lkp L5 0 = some (.slice A1 p_a.length c1) ∧ lkp L5 1 = some (.int .i64 (x3)) ∧ lkp L5 5 = some (.int .i64 ((k2 : Int))) ∧ RdS w6 (Iv 0 w.heap.size) R_Row 1 A1 p_a.length c1 p_a ∧ Ex w w6 ∧ x3 ≤ 9223372036854775807 ∧ loopM (B_l_heldRowS_0 p_a p_k) (p_a.length - k2) k2 (x3) = loopM (B_l_heldRowS_0 p_a p_k) (p_a.length - 0) 0 (p_k)) (p_a.length - 0) ?_ ?_)))))
 ·exact ⟨0, p_k, rfl, (by omega), Nat.le_refl _, rfl, rfl, rfl, h1, (Ex.refl w), (by first | omega | assumption | (simp only [IntKind.wrap_i64] at *; omega)), rfl⟩
 ·rintro m7 L8 w9 ⟨k2, x3, rfl, hk10, hsz12, hl13, hl14, hl15, hf16, hf17, hv18, hI11⟩
  refine CW.sub (Sub.cons hl13 (Sub.cons hl14 (Sub.cons hl15 (Sub.nil _)))) ?_
  have hf17z := Ex.size hf17
  have hbg19 := RdS.big hf16
  rcases Nat.lt_or_ge k2 p_a.length with hlt20 | hlt20
  ·refine CW.seq (CW.seq (CW.region (sd rfl (yl_move rfl rfl (sd rfl (yl_move rfl rfl (sd rfl (yl_len Tryz.un29 rfl rfl (sd rfl (yl_lss rfl rfl rfl (SeqR.done (tn ?_))))))))))))
   refine CW.cond_t rfl (lt_t hlt20) (CW.skip (tn (CW.seq (CW.block (CW.seq (CW.region (sd rfl (yl_move rfl rfl (sd rfl (yl_move rfl rfl ?_))))))))))
   obtain ⟨eb21, eo21, ec21, eA21, eS21, ebl21, el21, eR21, eC21⟩ := RdS.atD hf16 d_Row (i := k2) (by first | omega | assumption)
   obtain ⟨A22, c22, rfl, h22⟩ := eR21
   have eC21 : Cells w9 eb21 (eo21 + k2 * 1) [.slice A22 (((p_a.getD k2 d_Row).Vals).length) c22] := eC21
   refine sd rfl (yl_indexAddrN Tryz.un29 Tryz.ty80 rfl rfl rfl eA21 (by first | omega | assumption | (simp only [IntKind.wrap_i64] at *; omega)) (sd rfl (yl_fieldAddr Tryz.fd80_0 rfl rfl (sd rfl (yl_load1 Tryz.ty22 rfl rfl (eC21 0 _ rfl) (sd rfl (yl_move rfl rfl (sd rfl (yl_call Tryz.en42 rfl (opvs_cons rfl (opvs_cons rfl opvs_nil)) (Cal.mono (c_l_heldStringS ((p_a.getD k2 d_Row).Vals) x3 (RdS.up h22 good_Str) (by first | omega | assumption | (simp only [IntKind.wrap_i64] at *; omega))) ?_))))))))))
   rintro v24 w23 ⟨rfl, hE25⟩
   have hE25z := Ex.size hE25
   have hrf26 := rf_heldStringS ((p_a.getD k2 d_Row).Vals) x3 (by first | omega | assumption | (simp only [IntKind.wrap_i64] at *; omega))
   refine sd rfl (yl_assign rfl rfl (SeqR.done (tn (CW.seq (CW.region (sd rfl (yl_move rfl rfl (sd rfl (yl_lss rfl rfl rfl (SeqR.done (tn ?_)))))))))))
   refine bcase (decide ((l_heldStringS ((p_a.getD k2 d_Row).Vals) x3) < 0)) (fun hb27 => ?_) (fun hb27 => ?_)
   ·have hb27p := dec_t hb27
    refine CW.cond_t rfl hb27 (CW.seq (CW.region (sd rfl (yl_assign rfl rfl (SeqR.done (tn (CW.ret (br (tr ?_)))))))))
    refine tr ?_
    have hB29 : B_l_heldRowS_0 p_a p_k k2 (x3) = .ret (-1) := by simp only [B_l_heldRowS_0, hb27, cond_true, cond_false, loopE_done, loopE_ret]
    have hL28 : loopM (B_l_heldRowS_0 p_a p_k) (p_a.length - 0) 0 (p_k) = .ret (-1) := hI11.symm.trans (loopM.ret hlt20 hB29)
    refine br (tr (rr rfl (.cons rfl .nil) ?_))
    have hM30 : (l_heldRowS p_a p_k) = (-1) := by simp only [l_heldRowS, hb27, hL28, cond_true, cond_false, loopE_done, loopE_ret]
    rw [hM30]
    exact ⟨rfl, (Ex.trans hf17 hE25)⟩
   ·have hb27p := dec_f hb27
    refine CW.cond_f rfl hb27 (CW.skip (bn (tn (CW.region (sd rfl (yl_move rfl rfl (sd rfl (yl_inc rfl rfl rfl (by omega) (sd rfl (yl_assign rfl rfl (SeqR.done ?_)))))))))))
    refine tn ?_
    have hB32 : B_l_heldRowS_0 p_a p_k k2 (x3) = .cont ((l_heldStringS ((p_a.getD k2 d_Row).Vals) x3)) := by simp only [B_l_heldRowS_0, hb27, cond_true, cond_false, loopE_done, loopE_ret]
    exact ⟨p_a.length - (k2 + 1), by omega, k2 + 1, (l_heldStringS ((p_a.getD k2 d_Row).Vals) x3), rfl, hlt20, (by omega), rfl, rfl, rfl, (RdS.ex good_Row hf16 hE25), (Ex.trans hf17 hE25), (by first | omega | assumption | (simp only [IntKind.wrap_i64] at *; omega)), (loopM.cont hlt20 hB32).symm.trans hI11⟩
  ·refine CW.seq (CW.seq (CW.region (sd rfl (yl_move rfl rfl (sd rfl (yl_move rfl rfl (sd rfl (yl_len Tryz.un29 rfl rfl (sd rfl (yl_lss rfl rfl rfl (SeqR.done (tn ?_))))))))))))
   refine CW.cond_f rfl (lt_f hlt20) (CW.exit (tx (tx ?_)))
   have hL35 : loopM (B_l_heldRowS_0 p_a p_k) (p_a.length - 0) 0 (p_k) = .done (x3) := hI11.symm.trans (loopM.stop hlt20)
   refine bx (tn (CW.seq (CW.region (sd rfl (yl_move rfl rfl (sd rfl (yl_assign rfl rfl (SeqR.done (tn (CW.ret ?_))))))))))
   refine rr rfl (.cons rfl .nil) ?_
   have hM36 : (l_heldRowS p_a p_k) = (x3) := by simp only [l_heldRowS, hL35, cond_true, cond_false, loopE_done, loopE_ret]
   rw [hM36]
   exact ⟨rfl, hf17⟩
set_option maxRecDepth 100000 in
set_option maxHeartbeats 2000000 in
theorem c_l_FnExactRowsIn {A1 : Option Addr} {c1 : Nat} {A2 : Option Addr} {c2 : Nat} {A3 : Option Addr} {c3 : Nat} {w : World} (p_0 : DTable) (p_1 : List DWrite) (h1 : RdS w (Iv 0 w.heap.size) (RF e_Str) 1 A1 p_0.Cols.length c1 p_0.Cols) (h2 : RdS w (Iv 0 w.heap.size) (RF e_Idx) 3 A2 p_0.Idxs.length c2 p_0.Idxs) (h3 : RdS w (Iv 0 w.heap.size) (RF e_Write) 3 A3 p_1.length c3 p_1) (pre0 : wf_Table p_0) (pre1 : (wfL wf_Write) p_1) : Cal Tryz.prog 3 #[.agg #[.string (bs (p_0.Name)), .slice A1 p_0.Cols.length c1, .slice A2 p_0.Idxs.length c2], .slice A3 p_1.length c3] w fun v w' => v = .bool ((l_FnExactRowsIn p_0 p_1)) ∧ Ex w w' := by
 refine Cal.of (vs := [.agg #[.string (bs (p_0.Name)), .slice A1 p_0.Cols.length c1, .slice A2 p_0.Idxs.length c2], .slice A3 p_1.length c3]) Tryz.func3 rfl Tryz.ntmps3 rfl (CW.seq (CW.region (sd rfl (yl_box (cs := [.string (bs (p_0.Name)), .slice A1 p_0.Cols.length c1, .slice A2 p_0.Idxs.length c2]) rfl rfl rfl ?_))))
 intro b4 w5 hs6 hz7 hB8 hE9
 refine sd rfl (yl_assign rfl rfl (SeqR.done (tn (CW.seq (CW.region (sd rfl (yl_assign rfl rfl (SeqR.done (tn (CW.seq ?_))))))))))
 refine CW.region (sd rfl (yl_loadN (cs := [.string (bs (p_0.Name)), .slice A1 p_0.Cols.length c1, .slice A2 p_0.Idxs.length c2]) Tryz.ty25 rfl rfl (hB8.cells (n := 3) rfl) rfl (sd rfl (yl_move rfl rfl ?_))))
 have q10 := RdS.ex good_Str h1 hE9
 have q11 := RdS.ex good_Idx h2 hE9
 refine sd rfl (yl_call Tryz.en5 rfl (opvs_cons rfl (opvs_cons rfl opvs_nil)) (Cal.mono (c_l_szTable p_0 1048576 (RdS.up q10 good_Str) (RdS.up q11 good_Idx)) ?_))
 rintro v13 w12 ⟨rfl, hE14⟩
 have hE14z := Ex.size hE14
 refine sd rfl (yl_assign rfl rfl (SeqR.done (tn (CW.seq (CW.seq (CW.region (sd rfl (yl_move rfl rfl (sd rfl (yl_lss rfl rfl rfl (SeqR.done ?_)))))))))))
 refine tn (bcase (decide ((l_szTable p_0 1048576) < 0)) (fun hb15 => ?_) (fun hb15 => ?_))
 ·have hb15p := dec_t hb15
  refine CW.cond_t rfl hb15 (CW.seq (CW.region (sd rfl (yl_assign rfl rfl (SeqR.done (tn (CW.ret (tr (rr rfl (.cons rfl .nil) ?_)))))))))
  have hM16 : (l_FnExactRowsIn p_0 p_1) = (true) := by simp only [l_FnExactRowsIn, hb15, cond_true, cond_false, loopE_done, loopE_ret]
  rw [hM16]
  exact ⟨rfl, (Ex.trans (Ex.trans (Ex.refl w) hE9) hE14)⟩
 ·have hb15p := dec_f hb15
  refine CW.cond_f rfl hb15 (CW.skip (tn (CW.seq (CW.region (sd rfl (yl_move rfl rfl (sd rfl (yl_move rfl rfl ?_))))))))
  have q20 := RdS.ex good_Write (RdS.ex good_Write h3 hE9) hE14
  refine sd rfl (yl_call Tryz.en6 rfl (opvs_cons rfl (opvs_cons rfl opvs_nil)) (Cal.mono (c_l_szWriteS p_1 (l_szTable p_0 1048576) (RdS.up q20 good_Write)) ?_))
  rintro v22 w21 ⟨rfl, hE23⟩
  have hE23z := Ex.size hE23
  refine sd rfl (yl_assign rfl rfl (SeqR.done (tn (CW.seq (CW.seq (CW.region (sd rfl (yl_move rfl rfl (sd rfl (yl_lss rfl rfl rfl (SeqR.done ?_)))))))))))
  refine tn (bcase (decide ((l_szWriteS p_1 (l_szTable p_0 1048576)) < 0)) (fun hb24 => ?_) (fun hb24 => ?_))
  ·have hb24p := dec_t hb24
   refine CW.cond_t rfl hb24 (CW.seq (CW.region (sd rfl (yl_assign rfl rfl (SeqR.done (tn (CW.ret (tr (rr rfl (.cons rfl .nil) ?_)))))))))
   have hM25 : (l_FnExactRowsIn p_0 p_1) = (true) := by simp only [l_FnExactRowsIn, hb15, hb24, cond_true, cond_false, loopE_done, loopE_ret]
   rw [hM25]
   exact ⟨rfl, (Ex.trans (Ex.trans (Ex.trans (Ex.refl w) hE9) hE14) hE23)⟩
  ·have hb24p := dec_f hb24
   refine CW.cond_f rfl hb24 (CW.skip (tn (CW.seq (CW.region ?_))))
   have q30 := Box.ex (Box.ex hB8 hE14) hE23
   refine sd rfl (yl_loadN (cs := [.string (bs (p_0.Name)), .slice A1 p_0.Cols.length c1, .slice A2 p_0.Idxs.length c2]) Tryz.ty25 rfl rfl (q30.cells (n := 3) rfl) rfl ?_)
   have q32 := RdS.ex good_Str (RdS.ex good_Str q10 hE14) hE23
   have q34 := RdS.ex good_Idx (RdS.ex good_Idx q11 hE14) hE23
   refine sd rfl (yl_call Tryz.en8 rfl (opvs_cons rfl opvs_nil) (Cal.mono (c_l_toTable p_0 (RdS.up q32 good_Str) (RdS.up q34 good_Idx) ((szok_Table pre0 (by decide) (dec_f hb15)).1)) ?_))
   rintro v38 w35 ⟨A36, c36, lo36, hi36, A37, c37, lo37, hi37, rfl, h36, h37, hrn40, hrn41, hrn42, hE39⟩
   have hE39z := Ex.size hE39
   refine sd rfl (yl_move rfl rfl ?_)
   have q44 := RdS.ex good_Write (RdS.ex good_Write q20 hE23) hE39
   refine sd rfl (yl_call Tryz.en9 rfl (opvs_cons rfl opvs_nil) (Cal.mono (c_l_toWriteS p_1 (RdS.up q44 good_Write) ((szok_WriteS pre1 (szok_Table pre0 (by decide) (dec_f hb15)).2 (dec_f hb24)).1)) ?_))
   rintro v47 w45 ⟨A46, c46, lo46, hi46, rfl, h46, hrn49, hE48⟩
   have hE48z := Ex.size hE48
   refine sd rfl (yl_call Tryz.en7 rfl (opvs_cons rfl (opvs_cons rfl opvs_nil)) (Cal.mono (c_s_RowsIn p_0 p_1 (RdS.up (OwnL.rd good_Str (OwnL.ex good_Str h36 hE48)) good_Str) (RdS.up (OwnL.rd good_Idx (OwnL.ex good_Idx h37 hE48)) good_Idx) (RdS.up (OwnL.rd good_Write h46) good_Write) ((szok_Table pre0 (by decide) (dec_f hb15)).1) ((szok_WriteS pre1 (szok_Table pre0 (by decide) (dec_f hb15)).2 (dec_f hb24)).1)) ?_))
   rintro v58 w55 ⟨A56, c56, lo56, hi56, rfl, h56, ho57, hrn60, hE59⟩
   have hE59z := Ex.size hE59
   refine sd rfl (yl_move rfl rfl (sd rfl (yl_extract rfl rfl rfl (sd rfl (yl_extract rfl rfl rfl (sd rfl (yl_assign rfl rfl (sd rfl (yl_assign rfl rfl (SeqR.done (tn (CW.seq (CW.region ?_)))))))))))))
   have q63 := Box.ex (Box.ex (Box.ex q30 hE39) hE48) hE59
   refine sd rfl (yl_loadN (cs := [.string (bs (p_0.Name)), .slice A1 p_0.Cols.length c1, .slice A2 p_0.Idxs.length c2]) Tryz.ty25 rfl rfl (q63.cells (n := 3) rfl) rfl ?_)
   have q66 := RdS.ex good_Str (RdS.ex good_Str (RdS.ex good_Str q32 hE39) hE48) hE59
   have q69 := RdS.ex good_Idx (RdS.ex good_Idx (RdS.ex good_Idx q34 hE39) hE48) hE59
   refine sd rfl (yl_call Tryz.en8 rfl (opvs_cons rfl opvs_nil) (Cal.mono (c_l_toTable p_0 (RdS.up q66 good_Str) (RdS.up q69 good_Idx) ((szok_Table pre0 (by decide) (dec_f hb15)).1)) ?_))
   rintro v73 w70 ⟨A71, c71, lo71, hi71, A72, c72, lo72, hi72, rfl, h71, h72, hrn75, hrn76, hrn77, hE74⟩
   have hE74z := Ex.size hE74
   refine sd rfl (yl_alloc Tryz.ty34 (cs := [.string (bs (([] : Str))), .slice none 0 0, .slice none 0 0]) rfl rfl ?_)
   intro b78 w79 hs80 hz81 hB82 hE83
   refine SeqR.u rfl rfl (yl_store (vs := [.string (bs (p_0.Name)), .slice A71 p_0.Cols.length c71, .slice A72 p_0.Idxs.length c72]) Tryz.ty34 rfl rfl rfl rfl rfl rfl hB82 (Nat.le_of_ble_eq_true rfl) ?_)
   intro w84 hB85 hO86
   have hB85 : Box w84 b78 34 [.string (bs (p_0.Name)), .slice A71 p_0.Cols.length c71, .slice A72 p_0.Idxs.length c72] := hB85
   have hO86z := hO86.size
   refine SeqR.done (tn (CW.seq (CW.region (sd rfl (yl_move rfl rfl ?_)))))
   have q91 := RdS.only good_Write (RdS.ex good_Write (RdS.ex good_Write (RdS.ex good_Write (RdS.ex good_Write q44 hE48) hE59) hE74) hE83) hO86 (by simp only [Iv]; omega)
   refine sd rfl (yl_call Tryz.en9 rfl (opvs_cons rfl opvs_nil) (Cal.mono (c_l_toWriteS p_1 (RdS.up q91 good_Write) ((szok_WriteS pre1 (szok_Table pre0 (by decide) (dec_f hb15)).2 (dec_f hb24)).1)) ?_))
   rintro v94 w92 ⟨A93, c93, lo93, hi93, rfl, h93, hrn96, hE95⟩
   have hE95z := Ex.size hE95
   refine sd rfl (yl_assign rfl rfl (SeqR.done (tn (CW.seq (CW.region ?_)))))
   have q97 := Box.ex hB85 hE95
   refine sd rfl (yl_loadN (cs := [.string (bs (p_0.Name)), .slice A71 p_0.Cols.length c71, .slice A72 p_0.Idxs.length c72]) Tryz.ty34 rfl rfl (q97.cells (n := 3) rfl) rfl (sd rfl (yl_move rfl rfl ?_)))
   have q101 := OwnL.ex good_Str (OwnL.only good_Str (OwnL.ex good_Str h71 hE83) hO86 (by omega)) hE95
   have q105 := OwnL.ex good_Idx (OwnL.only good_Idx (OwnL.ex good_Idx h72 hE83) hO86 (by omega)) hE95
   refine sd rfl (yl_call Tryz.en10 rfl (opvs_cons rfl (opvs_cons rfl opvs_nil)) (Cal.mono (c_i_RowsIn p_0 p_1 (RdS.up (OwnL.rd good_Str q101) good_Str) (RdS.up (OwnL.rd good_Idx q105) good_Idx) (RdS.up (OwnL.rd good_Write h93) good_Write) ((szok_Table pre0 (by decide) (dec_f hb15)).1) ((szok_WriteS pre1 (szok_Table pre0 (by decide) (dec_f hb15)).2 (dec_f hb24)).1)) ?_))
   rintro v110 w107 ⟨A108, c108, lo108, hi108, rfl, h108, ho109, hrn112, hE111⟩
   have hE111z := Ex.size hE111
   refine sd rfl (yl_move rfl rfl (sd rfl (yl_extract rfl rfl rfl (sd rfl (yl_extract rfl rfl rfl (sd rfl (yl_assign rfl rfl (sd rfl (yl_assign rfl rfl (SeqR.done (tn (CW.seq (CW.seq ?_)))))))))))))
   refine CW.region (sd rfl (yl_move rfl rfl (sd rfl (yl_move rfl rfl ?_))))
   have q119 := OwnD.ex goodO_Row (OwnD.ex goodO_Row (OwnD.only goodO_Row (OwnD.ex goodO_Row (OwnD.ex goodO_Row h56 hE74) hE83) hO86 (by omega)) hE95) hE111
   refine sd rfl (yl_call Tryz.en11 rfl (opvs_cons rfl (opvs_cons rfl opvs_nil)) (Cal.mono (c_l_eqRowS ((i_RowsIn p_0 p_1).1) ((s_RowsIn p_0 p_1).1) (RdS.up (OwnL.rd good_Row (OwnD.own goodO_Row good_Row h108)) good_Row) (RdS.up (OwnL.rd good_Row (OwnD.own goodO_Row good_Row q119)) good_Row)) ?_))
   rintro v121 w120 ⟨rfl, hE122⟩
   have hE122z := Ex.size hE122
   refine sd rfl (yl_not rfl rfl (sd rfl (yl_move rfl rfl (bcase (l_eqRowS ((i_RowsIn p_0 p_1).1) ((s_RowsIn p_0 p_1).1)) (fun hb123 => ?_) (fun hb123 => ?_)))))
   ·refine sy rfl rfl (not_t hb123) (yl_move rfl rfl (sy rfl rfl (not_t hb123) (yl_move rfl rfl (sy rfl rfl (not_t hb123) (yl_bneq Tryz.un4 rfl rfl rfl (sd rfl (yl_pick_f rfl rfl (not_t hb123) rfl (SeqR.done (tn (bcase (((i_RowsIn p_0 p_1).2) == ((s_RowsIn p_0 p_1).2)) (fun hb124 => ?_) (fun hb124 => ?_)))))))))))
    ·refine CW.cond_f rfl (not_t hb124) (CW.skip (tn (CW.seq (CW.seq ?_))))
     have q126 := Box.ex (Box.ex q97 hE111) hE122
     have q132 := Box.ex (Box.ex (Box.ex (Box.only (Box.ex (Box.ex q63 hE74) hE83) hO86 (by omega)) hE95) hE111) hE122
     have q138 := RdS.ex good_Str (RdS.ex good_Str (RdS.ex good_Str (RdS.only good_Str (RdS.ex good_Str (RdS.ex good_Str q66 hE74) hE83) hO86 (by simp only [Iv]; omega)) hE95) hE111) hE122
     have q144 := RdS.ex good_Idx (RdS.ex good_Idx (RdS.ex good_Idx (RdS.only good_Idx (RdS.ex good_Idx (RdS.ex good_Idx q69 hE74) hE83) hO86 (by simp only [Iv]; omega)) hE95) hE111) hE122
     have q150 := OwnL.ex good_Str (OwnL.ex good_Str q101 hE111) hE122
     have q153 := OwnL.ex good_Idx (OwnL.ex good_Idx q105 hE111) hE122
     refine CW.drawsI 5 (vgetI [DetI (.agg #[.string (bs (p_0.Name)), .slice A71 p_0.Cols.length c71, .slice A72 p_0.Idxs.length c72]), DetI (.agg #[.string (bs (p_0.Name)), .slice A1 p_0.Cols.length c1, .slice A2 p_0.Idxs.length c2]), fun lo hi v wq => ∃ A146 c146 lo146 hi146 A147 c147 lo147 hi147, v = .agg #[.string (bs (p_0.Name)), .slice A146 p_0.Cols.length c146, .slice A147 p_0.Idxs.length c147] ∧ OwnL wq lo146 hi146 9 1 (RF e_Str) A146 p_0.Cols.length c146 p_0.Cols ∧ OwnL wq lo147 hi147 104 3 (RF e_Idx) A147 p_0.Idxs.length c147 p_0.Idxs ∧ (lo ≤ lo146 ∧ lo146 ≤ hi146 ∧ hi146 ≤ hi) ∧ (lo ≤ lo147 ∧ lo147 ≤ hi147 ∧ hi147 ≤ hi) ∧ (hi146 ≤ lo147 ∨ hi147 ≤ lo146), DetI (.bool ((l_eqTable p_0 p_0))), DetI (.bool (!(l_eqTable p_0 p_0)))]) Tryz.follows rfl rfl rfl rfl rfl rfl (vgetI_stable ⟨StableI.det _, StableI.det _, (fun _ _ _ _ _ ⟨A146, c146, lo146, hi146, A147, c147, lo147, hi147, hv, h146, h147, hr0, hr1, hr2⟩ e => ⟨A146, c146, lo146, hi146, A147, c147, lo147, hi147, hv, OwnL.ex good_Str h146 e, OwnL.ex good_Idx h147 e, hr0, hr1, hr2⟩), StableI.det _, StableI.det _, trivial⟩) ⟨?_, ?_, ?_, ?_, ?_, trivial⟩ ?_
     ·exact fun _ _ h => os rfl ((yl_loadN (cs := [.string (bs (p_0.Name)), .slice A71 p_0.Cols.length c71, .slice A72 p_0.Idxs.length c72]) Tryz.ty34 rfl (h.old 8 _ rfl rfl) ((Box.ex q126 h.ex).cells (n := 3) rfl) rfl kI))
     ·exact fun _ _ h => os rfl ((yl_loadN (cs := [.string (bs (p_0.Name)), .slice A1 p_0.Cols.length c1, .slice A2 p_0.Idxs.length c2]) Tryz.ty25 rfl (h.old 2 _ rfl rfl) ((Box.ex q132 h.ex).cells (n := 3) rfl) rfl kI))
     ·intro L167 w168 hi169
      have hE170 := hi169.ex
      refine OpR.op' rfl (yl_call Tryz.en8 rfl (opvs_cons (hi169.dt 1 55 rfl rfl rfl) opvs_nil) (Cal.mono (c_l_toTable p_0 (RdS.up (RdS.ex good_Str q138 hE170) good_Str) (RdS.up (RdS.ex good_Idx q144 hE170) good_Idx) ((szok_Table pre0 (by decide) (dec_f hb15)).1)) ?_))
      rintro v177 w174 ⟨A175, c175, lo175, hi175, A176, c176, lo176, hi176, rfl, h175, h176, hrn179, hrn180, hrn181, hE178⟩
      exact ⟨⟨A175, c175, lo175, hi175, A176, c176, lo176, hi176, rfl, h175, h176, hrn179, hrn180, hrn181⟩, hE178⟩
     ·intro L182 w183 hi184
      have hE185 := hi184.ex
      obtain ⟨lo188, hh189, _, hx187, hr190, hr191, hr192, A146_193, c146_194, lo146_195, hi146_196, A147_197, c147_198, lo147_199, hi147_200, rfl, h201, h202, hrn203, hrn204, hrn205⟩ := hi184.dep 2 56 rfl rfl
      refine OpR.op' rfl (yl_call Tryz.en12 rfl (opvs_cons (hi184.dt 0 54 rfl rfl rfl) (opvs_cons hx187 opvs_nil)) (Cal.mono (c_l_eqTable p_0 p_0 (RdS.up (OwnL.rd good_Str (OwnL.ex good_Str q150 hE185)) good_Str) (RdS.up (OwnL.rd good_Idx (OwnL.ex good_Idx q153 hE185)) good_Idx) (RdS.up (OwnL.rd good_Str h201) good_Str) (RdS.up (OwnL.rd good_Idx h202) good_Idx)) ?_))
      rintro v213 w212 ⟨rfl, hE214⟩
      exact ⟨rfl, hE214⟩
     ·exact fun _ _ h => os rfl ((yl_not rfl (h.dt 3 57 rfl rfl rfl) kI))
     ·intro fl223 fh224 L220 w221 hp222
      have hE225 := hp222.ex
      have hE225z := Ex.size hE225
      have hr235 := hp222.rng 2 rfl
      obtain ⟨_, hx234, A146_236, c146_237, lo146_238, hi146_239, A147_240, c147_241, lo147_242, hi147_243, rfl, h244, h245, hrn246, hrn247, hrn248⟩ := hp222.new 2 56 rfl rfl
      refine SeqR.done (tn (CW.sub (Sub.cons (d := 1) (hp222.old 1 _ rfl rfl) (Sub.cons (d := 2) (hp222.old 2 _ rfl rfl) (Sub.cons (d := 6) (hp222.old 6 _ rfl rfl) (Sub.cons (d := 7) (hp222.old 7 _ rfl rfl) (Sub.cons (d := 8) (hp222.old 8 _ rfl rfl) (Sub.cons (d := 9) (hp222.old 9 _ rfl rfl) (Sub.cons (d := 10) (hp222.old 10 _ rfl rfl) (Sub.cons (d := 11) (hp222.old 11 _ rfl rfl) (Sub.cons (d := 58) (hp222.nt 4 58 rfl rfl rfl) (Sub.nil _)))))))))) (bcase (l_eqTable p_0 p_0) (fun hb250 => ?_) (fun hb250 => ?_))))
      ·refine CW.cond_f rfl (not_t hb250) (CW.skip (tn (CW.seq (CW.seq (CW.region (sd rfl (yl_move rfl rfl (sd rfl (yl_move rfl rfl ?_)))))))))
       have q254 := RdS.ex good_Write (RdS.ex good_Write (RdS.ex good_Write (RdS.ex good_Write q91 hE95) hE111) hE122) hE225
       refine sd rfl (yl_call Tryz.en9 rfl (opvs_cons rfl opvs_nil) (Cal.mono (c_l_toWriteS p_1 (RdS.up q254 good_Write) ((szok_WriteS pre1 (szok_Table pre0 (by decide) (dec_f hb15)).2 (dec_f hb24)).1)) ?_))
       rintro v257 w255 ⟨A256, c256, lo256, hi256, rfl, h256, hrn259, hE258⟩
       have hE258z := Ex.size hE258
       have q264 := OwnL.ex good_Write (OwnL.ex good_Write (OwnL.ex good_Write (OwnL.ex good_Write h93 hE111) hE122) hE225) hE258
       refine sd rfl (yl_call Tryz.en13 rfl (opvs_cons rfl (opvs_cons rfl opvs_nil)) (Cal.mono (c_l_eqWriteS p_1 p_1 (RdS.up (OwnL.rd good_Write q264) good_Write) (RdS.up (OwnL.rd good_Write h256) good_Write)) ?_))
       rintro v267 w266 ⟨rfl, hE268⟩
       have hE268z := Ex.size hE268
       refine sd rfl (yl_not rfl rfl (SeqR.done (tn (bcase (l_eqWriteS p_1 p_1) (fun hb269 => ?_) (fun hb269 => ?_)))))
       ·refine CW.cond_f rfl (not_t hb269) (CW.skip (tn (CW.seq (CW.region (sd rfl (yl_assign rfl rfl (SeqR.done (tn (CW.seq ?_)))))))))
        refine CW.region (sd rfl (yl_loadN (cs := [.string (bs (p_0.Name)), .slice A71 p_0.Cols.length c71, .slice A72 p_0.Idxs.length c72]) Tryz.ty34 rfl rfl ((Box.ex (Box.ex (Box.ex q126 hE225) hE258) hE268).cells (n := 3) rfl) rfl (sd rfl (yl_move rfl rfl (sd rfl (yl_call Tryz.en14 rfl (opvs_cons rfl (opvs_cons rfl opvs_nil)) (Cal.mono (c_l_markTable p_0 1 (OwnL.ex good_Str (OwnL.ex good_Str (OwnL.ex good_Str q150 hE225) hE258) hE268) (OwnL.ex good_Idx (OwnL.ex good_Idx (OwnL.ex good_Idx q153 hE225) hE258) hE268) (by omega) (by omega) (by omega) (by first | omega | assumption | (simp only [IntKind.wrap_i64] at *; omega))) ?_)))))))
        rintro v280 w279 ⟨rfl, h282, h283, hm281⟩
        have hm281z := Mut.size hm281
        have hrf284 := rf_markTable p_0 1 (by first | omega | assumption | (simp only [IntKind.wrap_i64] at *; omega))
        refine sd rfl (yl_assign rfl rfl (SeqR.done (tn (CW.seq (CW.region (sd rfl (yl_move rfl rfl (sd rfl (yl_move rfl rfl (sd rfl (yl_call Tryz.en15 rfl (opvs_cons rfl (opvs_cons rfl opvs_nil)) (Cal.mono (c_l_markWriteS p_1 ((l_markTable p_0 1).1) (OwnL.mut good_Write (OwnL.ex good_Write q264 hE268) hm281 (fun k hk => by simp only [InR, or_false] at hk; omega)) (by omega) (by first | omega | assumption | (simp only [IntKind.wrap_i64] at *; omega))) ?_))))))))))))
        rintro v288 w287 ⟨rfl, h290, hm289⟩
        have hm289z := Mut.size hm289
        have hrf291 := rf_markWriteS p_1 ((l_markTable p_0 1).1) (by first | omega | assumption | (simp only [IntKind.wrap_i64] at *; omega))
        refine sd rfl (yl_assign rfl rfl (SeqR.done (tn (CW.seq (CW.seq (CW.region (sd rfl (yl_move rfl rfl (sd rfl (yl_lss rfl rfl rfl (sd rfl (yl_move rfl rfl ?_))))))))))))
        refine bcase (decide (((l_markWriteS p_1 ((l_markTable p_0 1).1)).1) < 0)) (fun hb292 => ?_) (fun hb292 => ?_)
        ·have hb292p := dec_t hb292
         refine sz rfl rfl hb292 (sz rfl rfl hb292 (sz rfl rfl hb292 (sz rfl rfl hb292 (sd rfl (yl_pick_t rfl rfl hb292 rfl (sd rfl (yl_move rfl rfl (sz rfl rfl rfl (sz rfl rfl rfl (sz rfl rfl rfl ?_))))))))))
         refine sd rfl (yl_pick_t rfl rfl rfl rfl (SeqR.done (tn (CW.cond_t rfl rfl (CW.seq (CW.region (sd rfl (yl_assign rfl rfl (SeqR.done (tn ?_))))))))))
         refine CW.ret (tr (rr rfl (.cons rfl .nil) ?_))
         have hM293 : (l_FnExactRowsIn p_0 p_1) = (false) := by simp only [l_FnExactRowsIn, hb15, hb24, hb123, hb124, hb250, hb269, hb292, cond_true, cond_false, loopE_done, loopE_ret]
         rw [hM293]
         have q310 := Ex.mut (Ex.mut (Ex.trans (Ex.trans (Ex.trans (Ex.trans (Ex.trans (Ex.trans (Below.only (Ex.trans (Ex.trans (Ex.trans (Ex.trans (Ex.trans (Ex.trans (Ex.trans (Ex.trans (Ex.refl w) hE9) hE14) hE23) hE39) hE48) hE59) hE74) hE83) hO86 (by omega)) hE95) hE111) hE122) hE225) hE258) hE268) hm281 (fun k hk => by simp only [InR, or_false] at hk; omega)) hm289 (fun k hk => by simp only [InR, or_false] at hk; omega)
         exact ⟨rfl, q310⟩
        ·have hb292p := dec_f hb292
         refine sy rfl rfl hb292 (yl_move rfl rfl (sy rfl rfl hb292 (yl_move rfl rfl ?_)))
         have q317 := OwnD.mut goodO_Row (OwnD.mut goodO_Row (OwnD.ex goodO_Row (OwnD.ex goodO_Row (OwnD.ex goodO_Row (OwnD.ex goodO_Row h108 hE122) hE225) hE258) hE268) hm281 (fun k hk => by simp only [InR, or_false] at hk; omega)) hm289 (fun k hk => by simp only [InR, or_false] at hk; omega)
         have q324 := OwnD.mut goodO_Row (OwnD.mut goodO_Row (OwnD.ex goodO_Row (OwnD.ex goodO_Row (OwnD.ex goodO_Row (OwnD.ex goodO_Row q119 hE122) hE225) hE258) hE268) hm281 (fun k hk => by simp only [InR, or_false] at hk; omega)) hm289 (fun k hk => by simp only [InR, or_false] at hk; omega)
         refine sy rfl rfl hb292 (yl_call Tryz.en11 rfl (opvs_cons rfl (opvs_cons rfl opvs_nil)) (Cal.mono (c_l_eqRowS ((i_RowsIn p_0 p_1).1) ((s_RowsIn p_0 p_1).1) (RdS.up (OwnL.rd good_Row (OwnD.own goodO_Row good_Row q317)) good_Row) (RdS.up (OwnL.rd good_Row (OwnD.own goodO_Row good_Row q324)) good_Row)) ?_))
         rintro v326 w325 ⟨rfl, hE327⟩
         have hE327z := Ex.size hE327
         refine sy rfl rfl hb292 (yl_not rfl rfl (sd rfl (yl_pick_f rfl rfl hb292 rfl (sd rfl (yl_move rfl rfl (sy rfl rfl (not_t hb123) (yl_move rfl rfl (sy rfl rfl (not_t hb123) (yl_move rfl rfl (sy rfl rfl (not_t hb123) (yl_bneq Tryz.un4 rfl rfl rfl (sd rfl (yl_pick_f rfl rfl (not_t hb123) rfl (SeqR.done (tn ?_)))))))))))))))
         refine CW.cond_f rfl (not_t hb124) (CW.skip (tn (CW.seq (CW.region (sd rfl (yl_assign rfl rfl (SeqR.done (tn (CW.seq ?_)))))))))
         refine CW.region (sd rfl (yl_move rfl rfl (sd rfl (yl_move rfl rfl (sd rfl (yl_call Tryz.en16 rfl (opvs_cons rfl (opvs_cons rfl opvs_nil)) (Cal.mono (c_l_markRowS ((i_RowsIn p_0 p_1).1) 1 (OwnD.ex goodO_Row q317 hE327) (by omega) (by first | omega | assumption | (simp only [IntKind.wrap_i64] at *; omega))) ?_)))))))
         rintro v330 w329 ⟨rfl, h332, hm331⟩
         have hm331z := Mut.size hm331
         have hrf333 := rf_markRowS ((i_RowsIn p_0 p_1).1) 1 (by first | omega | assumption | (simp only [IntKind.wrap_i64] at *; omega))
         refine sd rfl (yl_assign rfl rfl (SeqR.done (tn (CW.seq (CW.region (sd rfl (yl_assign rfl rfl (SeqR.done (tn (CW.seq ?_))))))))))
         refine CW.region (sd rfl (yl_move rfl rfl (sd rfl (yl_move rfl rfl ?_))))
         have hle334 := OwnD.len h332
         refine sd rfl (yl_call Tryz.en17 rfl (opvs_cons rfl (opvs_cons rfl opvs_nil)) (Cal.mono (Cal.args (by rw [← hle334] <;> rfl) (c_l_heldRowS ((l_markRowS ((i_RowsIn p_0 p_1).1) 1).2) 1 (RdS.fix (RdS.up (OwnL.rd good_Row (OwnD.own goodO_Row good_Row h332)) good_Row)) (by first | omega | assumption | (simp only [IntKind.wrap_i64] at *; omega)))) ?_))
         rintro v337 w336 ⟨rfl, hE338⟩
         have hE338z := Ex.size hE338
         have hrf339 := rf_heldRowS ((l_markRowS ((i_RowsIn p_0 p_1).1) 1).2) 1 (by first | omega | assumption | (simp only [IntKind.wrap_i64] at *; omega))
         refine sd rfl (yl_assign rfl rfl (SeqR.done (tn (CW.seq (CW.seq (CW.region (sd rfl (yl_move rfl rfl (sd rfl (yl_lss rfl rfl rfl (SeqR.done ?_)))))))))))
         refine tn (bcase (decide ((l_heldRowS ((l_markRowS ((i_RowsIn p_0 p_1).1) 1).2) 1) < 0)) (fun hb340 => ?_) (fun hb340 => ?_))
         ·have hb340p := dec_t hb340
          refine CW.cond_t rfl hb340 (CW.seq (CW.region (sd rfl (yl_assign rfl rfl (SeqR.done (tn (CW.ret (tr (rr rfl (.cons rfl .nil) ?_)))))))))
          have hM341 : (l_FnExactRowsIn p_0 p_1) = (false) := by simp only [l_FnExactRowsIn, hb15, hb24, hb123, hb124, hb250, hb269, hb292, hb340, cond_true, cond_false, loopE_done, loopE_ret]
          rw [hM341]
          have q358 := Ex.mut (Ex.mut (Ex.trans (Ex.trans (Ex.trans (Ex.trans (Ex.trans (Ex.trans (Below.only (Ex.trans (Ex.trans (Ex.trans (Ex.trans (Ex.trans (Ex.trans (Ex.trans (Ex.trans (Ex.refl w) hE9) hE14) hE23) hE39) hE48) hE59) hE74) hE83) hO86 (by omega)) hE95) hE111) hE122) hE225) hE258) hE268) hm281 (fun k hk => by simp only [InR, or_false] at hk; omega)) hm289 (fun k hk => by simp only [InR, or_false] at hk; omega)
          exact ⟨rfl, (Ex.trans (Ex.mut (Ex.trans q358 hE327) hm331 (fun k hk => by simp only [InR, or_false] at hk; omega)) hE338)⟩
         ·have hb340p := dec_f hb340
          refine CW.cond_f rfl hb340 (CW.skip (tn (CW.seq (CW.seq (CW.region (sd rfl (yl_move rfl rfl (sd rfl (yl_move rfl rfl (sd rfl (yl_neq rfl rfl rfl ?_)))))))))))
          refine SeqR.done (tn (bcase (decide ((l_heldRowS ((l_markRowS ((i_RowsIn p_0 p_1).1) 1).2) 1) = ((l_markRowS ((i_RowsIn p_0 p_1).1) 1).1))) (fun hb362 => ?_) (fun hb362 => ?_)))
          ·have hb362p := dec_t hb362
           refine CW.cond_f rfl (not_t hb362) (CW.skip (tn (CW.seq (CW.region (sd rfl (yl_loadN (cs := [.string (bs (p_0.Name)), .slice A1 p_0.Cols.length c1, .slice A2 p_0.Idxs.length c2]) Tryz.ty25 rfl rfl ((Box.ex (Box.mut (Box.ex (Box.mut (Box.mut (Box.ex (Box.ex (Box.ex q132 hE225) hE258) hE268) hm281 (fun k hk => by simp only [InR, or_false] at hk; omega)) hm289 (fun k hk => by simp only [InR, or_false] at hk; omega)) hE327) hm331 (fun k hk => by simp only [InR, or_false] at hk; omega)) hE338).cells (n := 3) rfl) rfl (sd rfl (yl_call Tryz.en8 rfl (opvs_cons rfl opvs_nil) (Cal.mono (c_l_toTable p_0 (RdS.up (RdS.ex good_Str (RdS.mut good_Str (RdS.ex good_Str (RdS.mut good_Str (RdS.mut good_Str (RdS.ex good_Str (RdS.ex good_Str (RdS.ex good_Str q138 hE225) hE258) hE268) hm281 (fun k hk => by simp only [InR, or_false, Iv, Ge] at hk ⊢; omega)) hm289 (fun k hk => by simp only [InR, or_false, Iv, Ge] at hk ⊢; omega)) hE327) hm331 (fun k hk => by simp only [InR, or_false, Iv, Ge] at hk ⊢; omega)) hE338) good_Str) (RdS.up (RdS.ex good_Idx (RdS.mut good_Idx (RdS.ex good_Idx (RdS.mut good_Idx (RdS.mut good_Idx (RdS.ex good_Idx (RdS.ex good_Idx (RdS.ex good_Idx q144 hE225) hE258) hE268) hm281 (fun k hk => by simp only [InR, or_false, Iv, Ge] at hk ⊢; omega)) hm289 (fun k hk => by simp only [InR, or_false, Iv, Ge] at hk ⊢; omega)) hE327) hm331 (fun k hk => by simp only [InR, or_false, Iv, Ge] at hk ⊢; omega)) hE338) good_Idx) ((szok_Table pre0 (by decide) (dec_f hb15)).1)) ?_)))))))))
           rintro v390 w387 ⟨A388, c388, lo388, hi388, A389, c389, lo389, hi389, rfl, h388, h389, hrn392, hrn393, hrn394, hE391⟩
           have hE391z := Ex.size hE391
           refine sd rfl (yl_move rfl rfl ?_)
           have q402 := RdS.ex good_Write (RdS.ex good_Write (RdS.mut good_Write (RdS.ex good_Write (RdS.mut good_Write (RdS.mut good_Write (RdS.ex good_Write (RdS.ex good_Write q254 hE258) hE268) hm281 (fun k hk => by simp only [InR, or_false, Iv, Ge] at hk ⊢; omega)) hm289 (fun k hk => by simp only [InR, or_false, Iv, Ge] at hk ⊢; omega)) hE327) hm331 (fun k hk => by simp only [InR, or_false, Iv, Ge] at hk ⊢; omega)) hE338) hE391
           refine sd rfl (yl_call Tryz.en9 rfl (opvs_cons rfl opvs_nil) (Cal.mono (c_l_toWriteS p_1 (RdS.up q402 good_Write) ((szok_WriteS pre1 (szok_Table pre0 (by decide) (dec_f hb15)).2 (dec_f hb24)).1)) ?_))
           rintro v405 w403 ⟨A404, c404, lo404, hi404, rfl, h404, hrn407, hE406⟩
           have hE406z := Ex.size hE406
           refine sd rfl (yl_call Tryz.en10 rfl (opvs_cons rfl (opvs_cons rfl opvs_nil)) (Cal.mono (c_i_RowsIn p_0 p_1 (RdS.up (OwnL.rd good_Str (OwnL.ex good_Str h388 hE406)) good_Str) (RdS.up (OwnL.rd good_Idx (OwnL.ex good_Idx h389 hE406)) good_Idx) (RdS.up (OwnL.rd good_Write h404) good_Write) ((szok_Table pre0 (by decide) (dec_f hb15)).1) ((szok_WriteS pre1 (szok_Table pre0 (by decide) (dec_f hb15)).2 (dec_f hb24)).1)) ?_))
           rintro v416 w413 ⟨A414, c414, lo414, hi414, rfl, h414, ho415, hrn418, hE417⟩
           have hE417z := Ex.size hE417
           refine sd rfl (yl_move rfl rfl (sd rfl (yl_extract rfl rfl rfl (sd rfl (yl_extract rfl rfl rfl (sd rfl (yl_assign rfl rfl (sd rfl (yl_assign rfl rfl (SeqR.done (tn (CW.seq (CW.seq ?_)))))))))))))
           refine CW.region (sd rfl (yl_move rfl rfl (sd rfl (yl_move rfl rfl (sd rfl (yl_call Tryz.en11 rfl (opvs_cons rfl (opvs_cons rfl opvs_nil)) (Cal.mono (c_l_eqRowS ((i_RowsIn p_0 p_1).1) ((s_RowsIn p_0 p_1).1) (RdS.up (OwnL.rd good_Row (OwnD.own goodO_Row good_Row h414)) good_Row) (RdS.up (OwnL.rd good_Row (OwnD.own goodO_Row good_Row (OwnD.ex goodO_Row (OwnD.ex goodO_Row (OwnD.ex goodO_Row (OwnD.ex goodO_Row (OwnD.mut goodO_Row (OwnD.ex goodO_Row q324 hE327) hm331 (fun k hk => by simp only [InR, or_false] at hk; omega)) hE338) hE391) hE406) hE417))) good_Row)) ?_)))))))
           rintro v428 w427 ⟨rfl, hE429⟩
           have hE429z := Ex.size hE429
           refine sd rfl (yl_not rfl rfl (sd rfl (yl_move rfl rfl (sy rfl rfl (not_t hb123) (yl_move rfl rfl (sy rfl rfl (not_t hb123) (yl_move rfl rfl (sy rfl rfl (not_t hb123) (yl_bneq Tryz.un4 rfl rfl rfl (sd rfl (yl_pick_f rfl rfl (not_t hb123) rfl (SeqR.done (tn (CW.cond_f rfl (not_t hb124) ?_))))))))))))))
           refine CW.skip (tn (CW.seq (CW.region (sd rfl (yl_assign rfl rfl (SeqR.done (tn (CW.seq (CW.region ?_)))))))))
           refine sd rfl (yl_move rfl rfl (sd rfl (yl_move rfl rfl ?_)))
           have q435 := OwnD.ex goodO_Row (OwnD.ex goodO_Row (OwnD.ex goodO_Row (OwnD.ex goodO_Row (OwnD.ex goodO_Row h332 hE338) hE391) hE406) hE417) hE429
           have hle430 := OwnD.len q435
           refine sd rfl (yl_call Tryz.en17 rfl (opvs_cons rfl (opvs_cons rfl opvs_nil)) (Cal.mono (Cal.args (by rw [← hle430] <;> rfl) (c_l_heldRowS ((l_markRowS ((i_RowsIn p_0 p_1).1) 1).2) 1 (RdS.fix (RdS.up (OwnL.rd good_Row (OwnD.own goodO_Row good_Row q435)) good_Row)) (by first | omega | assumption | (simp only [IntKind.wrap_i64] at *; omega)))) ?_))
           rintro v438 w437 ⟨rfl, hE439⟩
           have hE439z := Ex.size hE439
           have hrf440 := rf_heldRowS ((l_markRowS ((i_RowsIn p_0 p_1).1) 1).2) 1 (by first | omega | assumption | (simp only [IntKind.wrap_i64] at *; omega))
           refine sd rfl (yl_assign rfl rfl (SeqR.done (tn (CW.seq (CW.seq (CW.region (sd rfl (yl_move rfl rfl (sd rfl (yl_lss rfl rfl rfl (SeqR.done ?_)))))))))))
           refine tn (CW.cond_f rfl hb340 (CW.skip (tn (CW.seq (CW.seq (CW.region (sd rfl (yl_move rfl rfl (sd rfl (yl_move rfl rfl ?_))))))))))
           refine sd rfl (yl_neq rfl rfl rfl (SeqR.done (tn (CW.cond_f rfl (not_t hb362) (CW.skip (tn (CW.seq (CW.region (sd rfl (yl_assign rfl rfl ?_))))))))))
           refine SeqR.done (tn (CW.ret (rr rfl (.cons rfl .nil) ?_)))
           have hM441 : (l_FnExactRowsIn p_0 p_1) = (true) := by simp only [l_FnExactRowsIn, hb15, hb24, hb123, hb124, hb250, hb269, hb292, hb340, hb362, cond_true, cond_false, loopE_done, loopE_ret]
           rw [hM441]
           have q458 := Ex.mut (Ex.mut (Ex.trans (Ex.trans (Ex.trans (Ex.trans (Ex.trans (Ex.trans (Below.only (Ex.trans (Ex.trans (Ex.trans (Ex.trans (Ex.trans (Ex.trans (Ex.trans (Ex.trans (Ex.refl w) hE9) hE14) hE23) hE39) hE48) hE59) hE74) hE83) hO86 (by omega)) hE95) hE111) hE122) hE225) hE258) hE268) hm281 (fun k hk => by simp only [InR, or_false] at hk; omega)) hm289 (fun k hk => by simp only [InR, or_false] at hk; omega)
           exact ⟨rfl, (Ex.trans (Ex.trans (Ex.trans (Ex.trans (Ex.trans (Ex.trans (Ex.mut (Ex.trans q458 hE327) hm331 (fun k hk => by simp only [InR, or_false] at hk; omega)) hE338) hE391) hE406) hE417) hE429) hE439)⟩
          ·have hb362p := dec_f hb362
           refine CW.cond_t rfl (not_f hb362) (CW.seq (CW.region (sd rfl (yl_assign rfl rfl (SeqR.done (tn (CW.ret (tr (rr rfl (.cons rfl .nil) ?_)))))))))
           have hM467 : (l_FnExactRowsIn p_0 p_1) = (false) := by simp only [l_FnExactRowsIn, hb15, hb24, hb123, hb124, hb250, hb269, hb292, hb340, hb362, cond_true, cond_false, loopE_done, loopE_ret]
           rw [hM467]
           have q484 := Ex.mut (Ex.mut (Ex.trans (Ex.trans (Ex.trans (Ex.trans (Ex.trans (Ex.trans (Below.only (Ex.trans (Ex.trans (Ex.trans (Ex.trans (Ex.trans (Ex.trans (Ex.trans (Ex.trans (Ex.refl w) hE9) hE14) hE23) hE39) hE48) hE59) hE74) hE83) hO86 (by omega)) hE95) hE111) hE122) hE225) hE258) hE268) hm281 (fun k hk => by simp only [InR, or_false] at hk; omega)) hm289 (fun k hk => by simp only [InR, or_false] at hk; omega)
           exact ⟨rfl, (Ex.trans (Ex.mut (Ex.trans q484 hE327) hm331 (fun k hk => by simp only [InR, or_false] at hk; omega)) hE338)⟩
       ·refine CW.cond_t rfl (not_f hb269) (CW.seq (CW.region (sd rfl (yl_assign rfl rfl (SeqR.done (tn (CW.ret (tr (rr rfl (.cons rfl .nil) ?_)))))))))
        have hM488 : (l_FnExactRowsIn p_0 p_1) = (false) := by simp only [l_FnExactRowsIn, hb15, hb24, hb123, hb124, hb250, hb269, cond_true, cond_false, loopE_done, loopE_ret]
        rw [hM488]
        exact ⟨rfl, (Ex.trans (Ex.trans (Ex.trans (Ex.trans (Ex.trans (Ex.trans (Below.only (Ex.trans (Ex.trans (Ex.trans (Ex.trans (Ex.trans (Ex.trans (Ex.trans (Ex.trans (Ex.refl w) hE9) hE14) hE23) hE39) hE48) hE59) hE74) hE83) hO86 (by omega)) hE95) hE111) hE122) hE225) hE258) hE268)⟩
      ·refine CW.cond_t rfl (not_f hb250) (CW.seq (CW.region (sd rfl (yl_assign rfl rfl (SeqR.done (tn (CW.ret (tr (rr rfl (.cons rfl .nil) ?_)))))))))
       have hM504 : (l_FnExactRowsIn p_0 p_1) = (false) := by simp only [l_FnExactRowsIn, hb15, hb24, hb123, hb124, hb250, cond_true, cond_false, loopE_done, loopE_ret]
       rw [hM504]
       exact ⟨rfl, (Ex.trans (Ex.trans (Ex.trans (Ex.trans (Below.only (Ex.trans (Ex.trans (Ex.trans (Ex.trans (Ex.trans (Ex.trans (Ex.trans (Ex.trans (Ex.refl w) hE9) hE14) hE23) hE39) hE48) hE59) hE74) hE83) hO86 (by omega)) hE95) hE111) hE122) hE225)⟩
    ·refine CW.cond_t rfl (not_f hb124) (CW.seq (CW.region (sd rfl (yl_assign rfl rfl (SeqR.done (tn (CW.ret (tr (rr rfl (.cons rfl .nil) ?_)))))))))
     have hM518 : (l_FnExactRowsIn p_0 p_1) = (false) := by simp only [l_FnExactRowsIn, hb15, hb24, hb123, hb124, cond_true, cond_false, loopE_done, loopE_ret]
     rw [hM518]
     exact ⟨rfl, (Ex.trans (Ex.trans (Ex.trans (Below.only (Ex.trans (Ex.trans (Ex.trans (Ex.trans (Ex.trans (Ex.trans (Ex.trans (Ex.trans (Ex.refl w) hE9) hE14) hE23) hE39) hE48) hE59) hE74) hE83) hO86 (by omega)) hE95) hE111) hE122)⟩
   ·refine sz rfl rfl (not_f hb123) (sz rfl rfl (not_f hb123) (sz rfl rfl (not_f hb123) (sd rfl (yl_pick_t rfl rfl (not_f hb123) rfl (SeqR.done (tn (CW.cond_t rfl rfl (CW.seq (CW.region ?_)))))))))
    refine sd rfl (yl_assign rfl rfl (SeqR.done (tn (CW.ret (tr (rr rfl (.cons rfl .nil) ?_))))))
    have hM531 : (l_FnExactRowsIn p_0 p_1) = (false) := by simp only [l_FnExactRowsIn, hb15, hb24, hb123, cond_true, cond_false, loopE_done, loopE_ret]
    rw [hM531]
    exact ⟨rfl, (Ex.trans (Ex.trans (Ex.trans (Below.only (Ex.trans (Ex.trans (Ex.trans (Ex.trans (Ex.trans (Ex.trans (Ex.trans (Ex.trans (Ex.refl w) hE9) hE14) hE23) hE39) hE48) hE59) hE74) hE83) hO86 (by omega)) hE95) hE111) hE122)⟩
end Go.Proofs.YtdbobbmagmcpnaaGreatDoor
