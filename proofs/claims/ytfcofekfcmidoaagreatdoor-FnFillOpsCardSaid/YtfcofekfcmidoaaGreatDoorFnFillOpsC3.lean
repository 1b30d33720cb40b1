/- Fn Fill Ops: what each call returns, part 3. -/
import Derived.Test.YtfcofekfcmidoaaGreatDoorFnFillOpsC2
set_option maxRecDepth 100000
set_option maxHeartbeats 2000000
open Go.Proofs.Tryz Go.Proofs.YtfcofekfcmidoaaGreatDoor.Tryz
set_option linter.unusedVariables false
set_option linter.unusedSimpArgs false
namespace Go.Proofs.YtfcofekfcmidoaaGreatDoor
open Go.RowKit Go.X
theorem c_s_l25Write {A1 : Option Addr} {c1 : Nat} {A2 : Option Addr} {c2 : Nat} {A4 : Option Addr} {c4 : Nat} {w : World} (p_t : DTable) (p_r : DRow) (h1 : RdS w (Iv 0 w.heap.size) (RF e_Str) 1 A1 p_t.Cols.length c1 p_t.Cols) (h2 : RdS w (Iv 0 w.heap.size) (RF e_Idx) 3 A2 p_t.Idxs.length c2 p_t.Idxs) (h4 : RdS w (Iv 0 w.heap.size) (RF e_Str) 1 A4 p_r.Vals.length c4 p_r.Vals) (o3 : ok_Table p_t) (o5 : ok_Row p_r) (pre0 : 0 < p_r.Vals.length) : Cal Tryz.prog 25 #[.agg #[.string (bs (p_t.Name)), .slice A1 p_t.Cols.length c1, .slice A2 p_t.Idxs.length c2], .agg #[.slice A4 p_r.Vals.length c4]] w fun v w' => v = .agg #[.string (bs ((s_l25Write p_t p_r).Key)), .string (bs ((s_l25Write p_t p_r).Val)), .bool ((s_l25Write p_t p_r).Gone)] ∧ Ex w w' := by
 have hol6 : p_t.Name.length ≤ 1073741824 := o3.1
 have hol7 := o3.2.1.1
 have hol8 := o3.2.2.1
 have hol9 := o5.1
 refine Cal.of func25 rfl ntmps25 rfl (cR (sd rfl (yl_box rfl rfl rfl ?_)))
 intro b10 w11 hs12 hz13 hB14 hE15
 refine sd rfl (yl_box rfl rfl rfl ?_)
 intro b16 w17 hs18 hz19 hB20 hE21
 refine sd rfl (yB ty39 (cs := [.string (bs (([] : Str))), .string (bs (([] : Str))), .bool (false)]) rfl rfl ?_)
 intro b22 w23 hs24 hz25 hB26 hE27
 refine dn (CW.seq ?_)
 have hol30 : p_t.Name.length ≤ 1073741824 := o3.1
 have q31 := Box.ex hB20 hE27
 have q34 := RdS.ex gS (RdS.ex gS (RdS.ex gS h4 hE15) hE21) hE27
 obtain ⟨eb35, eo35, _, eA35, _, ebl35, _, eR35, eC35⟩ := RdS.aD q34 d_Str (i := 0)
 obtain rfl := eR35
 have eC35 : Cells w23 eb35 (eo35 + 0 * 1) [.string (bs ((p_r.Vals.getD 0 d_Str)))] := eC35
 have hol36 : p_t.Name.length ≤ 1073741824 := o3.1
 have hol37 : (p_r.Vals.getD 0 d_Str).length ≤ 1073741824 := (okL.getD o5 ok_d_Str _)
 obtain ⟨A38, c39, he42, h41⟩ := RdS.sl (RdS.drop q34 (k := 1) oM)
 have hrc43 := (q34).2.1
 refine CW.drawsI 12 (vgetI [DetI (.pointer (some ⟨b10, 0 + 0, none⟩)), DetI (.string (bs (p_t.Name))), DetI (.string (bs (p_t.Name ++ ([47] : Str)))), DetI (.pointer (some ⟨b16, 0 + 0, none⟩)), DetI (.slice A4 p_r.Vals.length c4), DetI (.pointer (some ⟨eb35, eo35 + 0 * 1, none⟩)), DetI (.string (bs ((p_r.Vals.getD 0 d_Str)))), DetI (.string (bs ((p_t.Name ++ ([47] : Str)) ++ (p_r.Vals.getD 0 d_Str)))), DetI (.pointer (some ⟨b16, 0 + 0, none⟩)), DetI (.slice A4 p_r.Vals.length c4), fun lo hi v wq => ∃ A38 c39, v = .slice A38 ((p_r.Vals.drop 1).length) c39 ∧ RdS wq (Iv 0 w.heap.size) (RF e_Str) 1 A38 (p_r.Vals.drop 1).length c39 (p_r.Vals.drop 1), DetI (.string (bs ((s_l24Join (p_r.Vals.drop 1) ([44] : Str)))))]) Tryz.follows rfl rfl rfl rfl rfl rfl (vgetI_stable ⟨StableI.det _, StableI.det _, StableI.det _, StableI.det _, StableI.det _, StableI.det _, StableI.det _, StableI.det _, StableI.det _, StableI.det _, (fun _ _ _ _ _ ⟨A38, c39, hv, h44⟩ e => ⟨A38, c39, hv, RdS.ex gS h44 e⟩), StableI.det _, trivial⟩) ⟨?_, ?_, ?_, ?_, ?_, ?_, ?_, ?_, ?_, ?_, ?_, ?_, trivial⟩ ?_
 ·exact oI rfl fun h => yl_fieldAddr fd26_0 rfl (h.old 2 _ rfl rfl) kI
 ·exact oI rfl fun h => yl_load1 ty9 rfl (h.dt 0 5 rfl rfl rfl) (((Box.ex (Box.ex (Box.ex hB14 hE21) hE27) h.ex).cell 0).trans rfl) kI
 ·intro L57 w58 hi59
  have hE60 := hi59.ex
  have hE60z := Ex.size hE60
  have hol62 : p_t.Name.length ≤ 1073741824 := o3.1
  exact os rfl ((yl_sadd (a := p_t.Name) (b := ([47] : Str)) rfl (hi59.dt 1 6 rfl rfl rfl) rfl Bl kI))
 ·exact oI rfl fun h => yl_fieldAddr fd28_0 rfl (h.old 3 _ rfl rfl) kI
 ·exact oI rfl fun h => yl_load1 ty23 rfl (h.dt 3 8 rfl rfl rfl) (((Box.ex q31 h.ex).cell 0).trans rfl) kI
 ·intro L74 w75 hi76
  have hE77 := hi76.ex
  have hE77z := Ex.size hE77
  exact os rfl ((yl_ixN un23 ty9 rfl (hi76.dt 4 9 rfl rfl rfl) rfl eA35 kI))
 ·exact oI rfl fun h => yl_load1 ty9 rfl (h.dt 5 10 rfl rfl rfl) ((Cells.ex eC35 h.ex) 0 _ rfl) kI
 ·intro L85 w86 hi87
  have hE88 := hi87.ex
  have hE88z := Ex.size hE88
  have hol91 : p_t.Name.length ≤ 1073741824 := o3.1
  have hol92 : (p_r.Vals.getD 0 d_Str).length ≤ 1073741824 := (okL.getD o5 ok_d_Str _)
  exact os rfl ((yl_sadd (a := (p_t.Name ++ ([47] : Str))) (b := (p_r.Vals.getD 0 d_Str)) rfl (hi87.dt 2 7 rfl rfl rfl) (hi87.dt 6 11 rfl rfl rfl) Bl kI))
 ·exact oI rfl fun h => yl_fieldAddr fd28_0 rfl (h.old 3 _ rfl rfl) kI
 ·exact oI rfl fun h => yl_load1 ty23 rfl (h.dt 8 13 rfl rfl rfl) (((Box.ex q31 h.ex).cell 0).trans rfl) kI
 ·intro L104 w105 hi106
  have hE107 := hi106.ex
  have hE107z := Ex.size hE107
  have q109 := RdS.ex gS q34 hE107
  obtain ⟨A110, c111, he114, h113⟩ := RdS.sl (RdS.drop q109 (k := 1) oM)
  have hrc115 := (q109).2.1
  exact os rfl ((yl_sliceR (kh := .i64) (l := 1) (h := p_r.Vals.length) un23 ty9 rfl (hi106.dt 9 14 rfl rfl rfl) (.inr ⟨_, rfl, rfl⟩) (.inl ⟨rfl, rfl⟩) oM oM he114 ⟨fun _ _ => ⟨A110, c111, rfl, h113⟩, rfl⟩))
 ·intro L116 w117 hi118
  obtain ⟨lo121, hh122, _, hx120, hr123, hr124, hr125, A38_126, c39_127, rfl, h128⟩ := hi118.dep 10 15 rfl rfl
  exact OpR.op' rfl (yC en48 rfl (oc hx120 (oc rfl oz)) (Cal.mono (c_s_l24Join (p_r.Vals.drop 1) ([44] : Str) (RdS.up h128 gS) (okL.drop o5 _) (okS.lit rfl)) fun _ _ h => h))
 ·intro fl135 fh136 L132 w133 hp134
  have hE137 := hp134.ex
  have hE137z := Ex.size hE137
  have hx138 := hp134.old 4 _ rfl rfl
  refine sd rfl (yl_build (cs := [.string (bs ((p_t.Name ++ ([47] : Str)) ++ (p_r.Vals.getD 0 d_Str))), .string (bs ((s_l24Join (p_r.Vals.drop 1) ([44] : Str)))), .bool (false)]) rfl (oc (hp134.nt 7 12 rfl rfl rfl) (oc (hp134.nt 11 16 rfl rfl rfl) oz)) (by kernel_rfl) (SeqR.u rfl rfl (yl_store (vs := [.string (bs ((p_t.Name ++ ([47] : Str)) ++ (p_r.Vals.getD 0 d_Str))), .string (bs ((s_l24Join (p_r.Vals.drop 1) ([44] : Str)))), .bool (false)]) ty39 rfl hx138 rfl rfl rfl rfl (Box.ex hB26 hE137) (nb rfl) ?_)))
  intro w142 hB143 hO144
  have hB143 : Box w142 b22 39 [.string (bs ((p_t.Name ++ ([47] : Str)) ++ (p_r.Vals.getD 0 d_Str))), .string (bs ((s_l24Join (p_r.Vals.drop 1) ([44] : Str)))), .bool (false)] := hB143
  have hO144z := hO144.size
  refine dn (CW.sub (sC 4 hx138 (Sub.nil _)) (CW.ret (rr rfl (.cons ⟨_, rfl, run_loadN ty39 (cs := [.string (bs ((p_t.Name ++ ([47] : Str)) ++ (p_r.Vals.getD 0 d_Str))), .string (bs ((s_l24Join (p_r.Vals.drop 1) ([44] : Str)))), .bool (false)]) rfl (hB143.cells (n := 3) rfl)⟩ .nil) ?_)))
  have hM145 : (s_l25Write p_t p_r) = ((⟨(p_t.Name ++ ([47] : Str)) ++ (p_r.Vals.getD 0 d_Str), (s_l24Join (p_r.Vals.drop 1) ([44] : Str)), false⟩ : DWrite)) := by simp only [s_l25Write, cL]
  rw [hM145]
  exact ⟨rfl, (Below.only (Ex.trans (Ex.trans (Ex.trans (Ex.trans (Ex.refl w) hE15) hE21) hE27) hE137) hO144 oM)⟩
theorem c_s_l25Entry {A1 : Option Addr} {c1 : Nat} {A2 : Option Addr} {c2 : Nat} {A5 : Option Addr} {c5 : Nat} {w : World} (p_t : DTable) (p_x : DIdx) (p_r : DRow) (h1 : RdS w (Iv 0 w.heap.size) (RF e_Str) 1 A1 p_t.Cols.length c1 p_t.Cols) (h2 : RdS w (Iv 0 w.heap.size) (RF e_Idx) 3 A2 p_t.Idxs.length c2 p_t.Idxs) (h5 : RdS w (Iv 0 w.heap.size) (RF e_Str) 1 A5 p_r.Vals.length c5 p_r.Vals) (o3 : ok_Table p_t) (o4 : ok_Idx p_x) (o6 : ok_Row p_r) (pre0 : (0 ≤ p_x.Col ∧ p_x.Col < (p_r.Vals.length : Int))) (pre1 : (p_t.Name.length ≤ 1 ∧ p_x.Name.length ≤ 1)) (pre2 : rowShort p_r) : Cal Tryz.prog 42 #[.agg #[.string (bs (p_t.Name)), .slice A1 p_t.Cols.length c1, .slice A2 p_t.Idxs.length c2], .agg #[.string (bs (p_x.Name)), .int .i64 (p_x.Col), .int .i64 (p_x.Stage)], .agg #[.slice A5 p_r.Vals.length c5]] w fun v w' => v = .string (bs ((s_l25Entry p_t p_x p_r))) ∧ okS (s_l25Entry p_t p_x p_r) ∧ Ex w w' := by
 have hol7 : p_t.Name.length ≤ 1073741824 := o3.1
 have hol8 := o3.2.1.1
 have hol9 := o3.2.2.1
 have hol10 : p_x.Name.length ≤ 1073741824 := o4
 have hol11 := o6.1
 refine Cal.of func42 rfl ntmps42 rfl (cR (sd rfl (yl_box rfl rfl rfl ?_)))
 intro b12 w13 hs14 hz15 hB16 hE17
 refine sd rfl (yl_box rfl rfl rfl ?_)
 intro b18 w19 hs20 hz21 hB22 hE23
 refine sd rfl (yl_box rfl rfl rfl ?_)
 intro b24 w25 hs26 hz27 hB28 hE29
 refine sA rfl (dn (CW.seq ?_))
 have hol32 : p_t.Name.length ≤ 1073741824 := o3.1
 have q33 := Box.ex hB22 hE29
 have hol34 : p_t.Name.length ≤ 1073741824 := o3.1
 have hol35 : p_x.Name.length ≤ 1073741824 := o4
 have hol36 : p_t.Name.length ≤ 1073741824 := o3.1
 have hol37 : p_x.Name.length ≤ 1073741824 := o4
 have q40 := RdS.ex gS (RdS.ex gS (RdS.ex gS h5 hE17) hE23) hE29
 obtain ⟨eb41, eo41, _, eA41, _, ebl41, _, eR41, eC41⟩ := RdS.atD q40 d_Str (i := (p_x.Col).toNat) Bo
 obtain rfl := eR41
 have eC41 : Cells w25 eb41 (eo41 + ((p_x.Col).toNat) * 1) [.string (bs ((p_r.Vals.getD ((p_x.Col).toNat) d_Str)))] := eC41
 have hol42 : p_t.Name.length ≤ 1073741824 := o3.1
 have hol43 : p_x.Name.length ≤ 1073741824 := o4
 have hol44 : (p_r.Vals.getD ((p_x.Col).toNat) d_Str).length ≤ 1073741824 := (okL.getD o6 ok_d_Str _)
 have hol45 : p_t.Name.length ≤ 1073741824 := o3.1
 have hol46 : p_x.Name.length ≤ 1073741824 := o4
 have hol47 : (p_r.Vals.getD ((p_x.Col).toNat) d_Str).length ≤ 1073741824 := (okL.getD o6 ok_d_Str _)
 obtain ⟨eb48, eo48, _, eA48, _, ebl48, _, eR48, eC48⟩ := RdS.aD q40 d_Str (i := 0)
 obtain rfl := eR48
 have eC48 : Cells w25 eb48 (eo48 + 0 * 1) [.string (bs ((p_r.Vals.getD 0 d_Str)))] := eC48
 have hol49 : p_t.Name.length ≤ 1073741824 := o3.1
 have hol50 : p_x.Name.length ≤ 1073741824 := o4
 have hol51 : (p_r.Vals.getD ((p_x.Col).toNat) d_Str).length ≤ 1073741824 := (okL.getD o6 ok_d_Str _)
 have hol52 : (p_r.Vals.getD 0 d_Str).length ≤ 1073741824 := (okL.getD o6 ok_d_Str _)
 refine drI 21 [.pointer (some ⟨b12, 0 + 0, none⟩), .string (bs (p_t.Name)), .string (bs (p_t.Name ++ ([46] : Str))), .pointer (some ⟨b18, 0 + 0, none⟩), .string (bs (p_x.Name)), .string (bs ((p_t.Name ++ ([46] : Str)) ++ p_x.Name)), .string (bs (((p_t.Name ++ ([46] : Str)) ++ p_x.Name) ++ ([47] : Str))), .pointer (some ⟨b24, 0 + 0, none⟩), .slice A5 p_r.Vals.length c5, .pointer (some ⟨b18, 0 + 1, none⟩), .int .i64 (p_x.Col), .pointer (some ⟨eb41, eo41 + ((p_x.Col).toNat) * 1, none⟩), .string (bs ((p_r.Vals.getD ((p_x.Col).toNat) d_Str))), .string (bs ((((p_t.Name ++ ([46] : Str)) ++ p_x.Name) ++ ([47] : Str)) ++ (p_r.Vals.getD ((p_x.Col).toNat) d_Str))), .string (bs (((((p_t.Name ++ ([46] : Str)) ++ p_x.Name) ++ ([47] : Str)) ++ (p_r.Vals.getD ((p_x.Col).toNat) d_Str)) ++ ([47] : Str))), .pointer (some ⟨b24, 0 + 0, none⟩), .slice A5 p_r.Vals.length c5, .pointer (some ⟨eb48, eo48 + 0 * 1, none⟩), .string (bs ((p_r.Vals.getD 0 d_Str))), .string (bs ((((((p_t.Name ++ ([46] : Str)) ++ p_x.Name) ++ ([47] : Str)) ++ (p_r.Vals.getD ((p_x.Col).toNat) d_Str)) ++ ([47] : Str)) ++ (p_r.Vals.getD 0 d_Str))), .string (bs ((((((p_t.Name ++ ([46] : Str)) ++ p_x.Name) ++ ([47] : Str)) ++ (p_r.Vals.getD ((p_x.Col).toNat) d_Str)) ++ ([47] : Str)) ++ (p_r.Vals.getD 0 d_Str)))] Tryz.follows rfl ⟨?_, ?_, ?_, ?_, ?_, ?_, ?_, ?_, ?_, ?_, ?_, ?_, ?_, ?_, ?_, ?_, ?_, ?_, ?_, ?_, ?_, trivial⟩ ?_
 ·exact oI rfl fun h => yl_fieldAddr fd26_0 rfl (h.old 3 _ rfl rfl) kI
 ·exact oI rfl fun h => yl_load1 ty9 rfl (h.dt 0 7 rfl rfl rfl) (((Box.ex (Box.ex (Box.ex hB16 hE23) hE29) h.ex).cell 0).trans rfl) kI
 ·intro L64 w65 hi66
  have hE67 := hi66.ex
  have hE67z := Ex.size hE67
  have hol69 : p_t.Name.length ≤ 1073741824 := o3.1
  exact os rfl ((yl_sadd (a := p_t.Name) (b := ([46] : Str)) rfl (hi66.dt 1 8 rfl rfl rfl) rfl Bl kI))
 ·exact oI rfl fun h => yl_fieldAddr fd54_0 rfl (h.old 4 _ rfl rfl) kI
 ·exact oI rfl fun h => yl_load1 ty9 rfl (h.dt 3 10 rfl rfl rfl) (((Box.ex q33 h.ex).cell 0).trans rfl) kI
 ·intro L81 w82 hi83
  have hE84 := hi83.ex
  have hE84z := Ex.size hE84
  have hol87 : p_t.Name.length ≤ 1073741824 := o3.1
  have hol88 : p_x.Name.length ≤ 1073741824 := o4
  exact os rfl ((yl_sadd (a := (p_t.Name ++ ([46] : Str))) (b := p_x.Name) rfl (hi83.dt 2 9 rfl rfl rfl) (hi83.dt 4 11 rfl rfl rfl) Bl kI))
 ·intro L89 w90 hi91
  have hE92 := hi91.ex
  have hE92z := Ex.size hE92
  have hol94 : p_t.Name.length ≤ 1073741824 := o3.1
  have hol95 : p_x.Name.length ≤ 1073741824 := o4
  exact os rfl ((yl_sadd (a := ((p_t.Name ++ ([46] : Str)) ++ p_x.Name)) (b := ([47] : Str)) rfl (hi91.dt 5 12 rfl rfl rfl) rfl Bl kI))
 ·exact oI rfl fun h => yl_fieldAddr fd28_0 rfl (h.old 5 _ rfl rfl) kI
 ·exact oI rfl fun h => yl_load1 ty23 rfl (h.dt 7 14 rfl rfl rfl) (((Box.ex hB28 h.ex).cell 0).trans rfl) kI
 ·exact oI rfl fun h => yl_fieldAddr fd54_1 rfl (h.old 4 _ rfl rfl) kI
 ·exact oI rfl fun h => yl_load1 ty3 rfl (h.dt 9 16 rfl rfl rfl) (((Box.ex q33 h.ex).cell 1).trans rfl) kI
 ·intro L118 w119 hi120
  have hE121 := hi120.ex
  have hE121z := Ex.size hE121
  exact os rfl ((yl_indexAddr un23 ty9 rfl (hi120.dt 8 15 rfl rfl rfl) (hi120.dt 10 17 rfl rfl rfl) eA41 Bo Bo kI))
 ·exact oI rfl fun h => yl_load1 ty9 rfl (h.dt 11 18 rfl rfl rfl) ((Cells.ex eC41 h.ex) 0 _ rfl) kI
 ·intro L130 w131 hi132
  have hE133 := hi132.ex
  have hE133z := Ex.size hE133
  have hol136 : p_t.Name.length ≤ 1073741824 := o3.1
  have hol137 : p_x.Name.length ≤ 1073741824 := o4
  have hol138 : (p_r.Vals.getD ((p_x.Col).toNat) d_Str).length ≤ 1073741824 := (okL.getD o6 ok_d_Str _)
  exact os rfl ((yl_sadd (a := (((p_t.Name ++ ([46] : Str)) ++ p_x.Name) ++ ([47] : Str))) (b := (p_r.Vals.getD ((p_x.Col).toNat) d_Str)) rfl (hi132.dt 6 13 rfl rfl rfl) (hi132.dt 12 19 rfl rfl rfl) Bl kI))
 ·intro L139 w140 hi141
  have hE142 := hi141.ex
  have hE142z := Ex.size hE142
  have hol144 : p_t.Name.length ≤ 1073741824 := o3.1
  have hol145 : p_x.Name.length ≤ 1073741824 := o4
  have hol146 : (p_r.Vals.getD ((p_x.Col).toNat) d_Str).length ≤ 1073741824 := (okL.getD o6 ok_d_Str _)
  exact os rfl ((yl_sadd (a := ((((p_t.Name ++ ([46] : Str)) ++ p_x.Name) ++ ([47] : Str)) ++ (p_r.Vals.getD ((p_x.Col).toNat) d_Str))) (b := ([47] : Str)) rfl (hi141.dt 13 20 rfl rfl rfl) rfl Bl kI))
 ·exact oI rfl fun h => yl_fieldAddr fd28_0 rfl (h.old 5 _ rfl rfl) kI
 ·exact oI rfl fun h => yl_load1 ty23 rfl (h.dt 15 22 rfl rfl rfl) (((Box.ex hB28 h.ex).cell 0).trans rfl) kI
 ·intro L158 w159 hi160
  have hE161 := hi160.ex
  have hE161z := Ex.size hE161
  exact os rfl ((yl_ixN un23 ty9 rfl (hi160.dt 16 23 rfl rfl rfl) rfl eA48 kI))
 ·exact oI rfl fun h => yl_load1 ty9 rfl (h.dt 17 24 rfl rfl rfl) ((Cells.ex eC48 h.ex) 0 _ rfl) kI
 ·intro L169 w170 hi171
  have hE172 := hi171.ex
  have hE172z := Ex.size hE172
  have hol175 : p_t.Name.length ≤ 1073741824 := o3.1
  have hol176 : p_x.Name.length ≤ 1073741824 := o4
  have hol177 : (p_r.Vals.getD ((p_x.Col).toNat) d_Str).length ≤ 1073741824 := (okL.getD o6 ok_d_Str _)
  have hol178 : (p_r.Vals.getD 0 d_Str).length ≤ 1073741824 := (okL.getD o6 ok_d_Str _)
  exact os rfl ((yl_sadd (a := (((((p_t.Name ++ ([46] : Str)) ++ p_x.Name) ++ ([47] : Str)) ++ (p_r.Vals.getD ((p_x.Col).toNat) d_Str)) ++ ([47] : Str))) (b := (p_r.Vals.getD 0 d_Str)) rfl (hi171.dt 14 21 rfl rfl rfl) (hi171.dt 18 25 rfl rfl rfl) Bl kI))
 ·exact oI rfl fun h => yA rfl (h.dt 19 26 rfl rfl rfl) kI
 ·intro fl187 fh188 L184 w185 hp186
  have hE189 := hp186.ex
  have hE189z := Ex.size hE189
  refine dn (CW.sub (sC 6 (hp186.nt 20 6 rfl rfl rfl) (Sub.nil _)) (CW.ret (rr rfl (.cons rfl .nil) ?_)))
  have hM191 : (s_l25Entry p_t p_x p_r) = ((((((p_t.Name ++ ([46] : Str)) ++ p_x.Name) ++ ([47] : Str)) ++ (p_r.Vals.getD ((p_x.Col).toNat) d_Str)) ++ ([47] : Str)) ++ (p_r.Vals.getD 0 d_Str)) := by simp only [s_l25Entry, cL]
  rw [hM191]
  exact ⟨rfl, (okS_l25Entry pre1 pre2), (Ex.trans (Ex.trans (Ex.trans (Ex.trans (Ex.refl w) hE17) hE23) hE29) hE189)⟩
theorem c_s_l26Fill {A1 : Option Addr} {c1 : Nat} {A2 : Option Addr} {c2 : Nat} {A5 : Option Addr} {c5 : Nat} {w : World} (p_t : DTable) (p_x : DIdx) (p_r : DRow) (h1 : RdS w (Iv 0 w.heap.size) (RF e_Str) 1 A1 p_t.Cols.length c1 p_t.Cols) (h2 : RdS w (Iv 0 w.heap.size) (RF e_Idx) 3 A2 p_t.Idxs.length c2 p_t.Idxs) (h5 : RdS w (Iv 0 w.heap.size) (RF e_Str) 1 A5 p_r.Vals.length c5 p_r.Vals) (o3 : ok_Table p_t) (o4 : ok_Idx p_x) (o6 : ok_Row p_r) (pre0 : (0 ≤ p_x.Col ∧ p_x.Col < (p_r.Vals.length : Int))) (pre1 : (p_t.Name.length ≤ 1 ∧ p_x.Name.length ≤ 1)) (pre2 : rowShort p_r) (pre3 : (0 < p_r.Vals.length ∧ p_r.Vals.length ≤ 4)) : Cal Tryz.prog 20 #[.agg #[.string (bs (p_t.Name)), .slice A1 p_t.Cols.length c1, .slice A2 p_t.Idxs.length c2], .agg #[.string (bs (p_x.Name)), .int .i64 (p_x.Col), .int .i64 (p_x.Stage)], .agg #[.slice A5 p_r.Vals.length c5]] w fun v w' => ∃ A_1 c_1 lo_1 hi_1, v = .slice A_1 ((s_l26Fill p_t p_x p_r).length) c_1 ∧ OwnL w' lo_1 hi_1 61 4 (RF e_Op) A_1 ((s_l26Fill p_t p_x p_r).length) c_1 (s_l26Fill p_t p_x p_r) ∧ (okL ok_Op) (s_l26Fill p_t p_x p_r) ∧ (w.heap.size ≤ lo_1 ∧ lo_1 ≤ hi_1 ∧ hi_1 ≤ w'.heap.size) ∧ Ex w w' := by
 have hol7 : p_t.Name.length ≤ 1073741824 := o3.1
 have hol8 := o3.2.1.1
 have hol9 := o3.2.2.1
 have hol10 : p_x.Name.length ≤ 1073741824 := o4
 have hol11 := o6.1
 refine Cal.of func20 rfl ntmps20 rfl (cR (sd rfl (yl_box rfl rfl rfl ?_)))
 intro b12 w13 hs14 hz15 hB16 hE17
 refine sd rfl (yl_box rfl rfl rfl ?_)
 intro b18 w19 hs20 hz21 hB22 hE23
 refine sd rfl (yl_box rfl rfl rfl ?_)
 intro b24 w25 hs26 hz27 hB28 hE29
 refine sA rfl (dn (cR ?_))
 have q31 := Box.ex (Box.ex hB16 hE23) hE29
 refine sd rfl (yl_loadN ty26 rfl rfl (q31.cells (n := 3) rfl) rfl (sd rfl (yl_loadN ty28 rfl rfl (hB28.cells (n := 1) rfl) rfl ?_)))
 have q34 := RdS.ex gS (RdS.ex gS (RdS.ex gS h1 hE17) hE23) hE29
 have q37 := RdS.ex gI (RdS.ex gI (RdS.ex gI h2 hE17) hE23) hE29
 have q40 := RdS.ex gS (RdS.ex gS (RdS.ex gS h5 hE17) hE23) hE29
 refine sd rfl (yC en25 rfl (oc rfl (oc rfl oz)) (Cal.mono (c_s_l25Write p_t p_r (RdS.up q34 gS) (RdS.up q37 gI) (RdS.up q40 gS) o3 o6 Bo) ?_))
 rintro v42 w41 ⟨rfl, hE43⟩
 have hE43z := Ex.size hE43
 refine sd rfl (yB ty39 (cs := [.string (bs (([] : Str))), .string (bs (([] : Str))), .bool (false)]) rfl rfl ?_)
 intro b44 w45 hs46 hz47 hB48 hE49
 refine SeqR.u rfl rfl (yl_store (vs := [.string (bs ((s_l25Write p_t p_r).Key)), .string (bs ((s_l25Write p_t p_r).Val)), .bool ((s_l25Write p_t p_r).Gone)]) ty39 rfl rfl rfl rfl rfl rfl hB48 (nb rfl) ?_)
 intro w50 hB51 hO52
 have hB51 : Box w50 b44 39 [.string (bs ((s_l25Write p_t p_r).Key)), .string (bs ((s_l25Write p_t p_r).Val)), .bool ((s_l25Write p_t p_r).Gone)] := hB51
 have hO52z := hO52.size
 refine dn (CW.seq (CW.drawsI 10 (vgetI [DetI (.pointer (some ⟨b44, 0 + 0, none⟩)), DetI (.string (bs ((s_l25Write p_t p_r).Key))), DetI (.pointer (some ⟨b44, 0 + 1, none⟩)), DetI (.string (bs ((s_l25Write p_t p_r).Val))), DetI (.agg #[.int .i64 (7), .string (bs ((s_l25Write p_t p_r).Key)), .string (bs ((s_l25Write p_t p_r).Val)), .int .i64 (0)]), DetI (.agg #[.string (bs (p_t.Name)), .slice A1 p_t.Cols.length c1, .slice A2 p_t.Idxs.length c2]), DetI (.agg #[.string (bs (p_x.Name)), .int .i64 (p_x.Col), .int .i64 (p_x.Stage)]), DetI (.agg #[.slice A5 p_r.Vals.length c5]), fun lo hi v wq => v = .string (bs ((s_l25Entry p_t p_x p_r))) ∧ okS (s_l25Entry p_t p_x p_r), DetI (.agg #[.int .i64 (2), .string (bs ((s_l25Entry p_t p_x p_r))), .string (bs (([] : Str))), .int .i64 (0)])]) Tryz.follows rfl rfl rfl rfl rfl rfl (vgetI_stable ⟨StableI.det _, StableI.det _, StableI.det _, StableI.det _, StableI.det _, StableI.det _, StableI.det _, StableI.det _, (fun _ _ _ _ _ ⟨hv, ho73⟩ e => ⟨hv, ho73⟩), StableI.det _, trivial⟩) ⟨?_, ?_, ?_, ?_, ?_, ?_, ?_, ?_, ?_, ?_, trivial⟩ ?_))
 ·exact oI rfl fun h => yl_fieldAddr fd39_0 rfl (h.old 7 _ rfl rfl) kI
 ·exact oI rfl fun h => yl_load1 ty9 rfl (h.dt 0 11 rfl rfl rfl) (((Box.ex hB51 h.ex).cell 0).trans rfl) kI
 ·exact oI rfl fun h => yl_fieldAddr fd39_1 rfl (h.old 7 _ rfl rfl) kI
 ·exact oI rfl fun h => yl_load1 ty9 rfl (h.dt 2 13 rfl rfl rfl) (((Box.ex hB51 h.ex).cell 1).trans rfl) kI
 ·exact oI rfl fun h => yl_build (cs := [.int .i64 (7), .string (bs ((s_l25Write p_t p_r).Key)), .string (bs ((s_l25Write p_t p_r).Val)), .int .i64 (0)]) rfl (oc rfl (oc (h.dt 1 12 rfl rfl rfl) (oc (h.dt 3 14 rfl rfl rfl) oz))) (by kernel_rfl) kI
 ·intro L102 w103 hi104
  have hE105 := hi104.ex
  have hE105z := Ex.size hE105
  exact os rfl ((yl_loadN ty26 rfl (hi104.old 3 _ rfl rfl) ((Box.ex (Box.only (Box.ex (Box.ex q31 hE43) hE49) hO52 oM) hE105).cells (n := 3) rfl) rfl kI))
 ·intro L108 w109 hi110
  have hE111 := hi110.ex
  have hE111z := Ex.size hE111
  exact os rfl ((yl_loadN ty54 rfl (hi110.old 4 _ rfl rfl) ((Box.ex (Box.only (Box.ex (Box.ex (Box.ex hB22 hE29) hE43) hE49) hO52 oM) hE111).cells (n := 3) rfl) rfl kI))
 ·intro L114 w115 hi116
  have hE117 := hi116.ex
  have hE117z := Ex.size hE117
  exact os rfl ((yl_loadN ty28 rfl (hi116.old 5 _ rfl rfl) ((Box.ex (Box.only (Box.ex (Box.ex hB28 hE43) hE49) hO52 oM) hE117).cells (n := 1) rfl) rfl kI))
 ·intro L120 w121 hi122
  have hE123 := hi122.ex
  have hE123z := Ex.size hE123
  refine OpR.op' rfl (yC en42 rfl (oc (hi122.dt 5 16 rfl rfl rfl) (oc (hi122.dt 6 17 rfl rfl rfl) (oc (hi122.dt 7 18 rfl rfl rfl) oz))) (Cal.mono (c_s_l25Entry p_t p_x p_r (RdS.up (RdS.ex gS (RdS.only gS (RdS.ex gS (RdS.ex gS q34 hE43) hE49) hO52 (by simp only [Iv]; omega)) hE123) gS) (RdS.up (RdS.ex gI (RdS.only gI (RdS.ex gI (RdS.ex gI q37 hE43) hE49) hO52 (by simp only [Iv]; omega)) hE123) gI) (RdS.up (RdS.ex gS (RdS.only gS (RdS.ex gS (RdS.ex gS q40 hE43) hE49) hO52 (by simp only [Iv]; omega)) hE123) gS) o3 o4 o6 Bo Bo Bo) ?_))
  rintro v132 w130 ⟨rfl, ho131, hE133⟩
  exact ⟨⟨rfl, ho131⟩, hE133⟩
 ·intro L134 w135 hi136
  obtain ⟨lo139, hh140, _, hx138, hr141, hr142, hr143, rfl, h144⟩ := hi136.dep 8 19 rfl rfl
  exact os rfl ((yl_build (cs := [.int .i64 (2), .string (bs ((s_l25Entry p_t p_x p_r))), .string (bs (([] : Str))), .int .i64 (0)]) rfl (oc rfl (oc hx138 oz)) (by kernel_rfl) kI))
 ·intro fl148 fh149 L145 w146 hp147
  have hE150 := hp147.ex
  have hE150z := Ex.size hE150
  refine sd rfl (yl_buildSlice (cs := [.int .i64 (7), .string (bs ((s_l25Write p_t p_r).Key)), .string (bs ((s_l25Write p_t p_r).Val)), .int .i64 (0), .int .i64 (2), .string (bs ((s_l25Entry p_t p_x p_r))), .string (bs (([] : Str))), .int .i64 (0)]) un31 ty61 (by decide) rfl (oc (hp147.nt 4 15 rfl rfl rfl) (oc (hp147.nt 9 20 rfl rfl rfl) oz)) (by kernel_rfl) ?_)
  intro b153 w154 hs155 hz156 hB157 hE158
  have hO159 : OwnL w154 b153 (b153 + 1) 61 4 (RF e_Op) (some ⟨b153, 0, none⟩) 2 2 ([(⟨7, (s_l25Write p_t p_r).Key, (s_l25Write p_t p_r).Val, 0⟩ : DOp), (⟨2, (s_l25Entry p_t p_x p_r), ([] : Str), 0⟩ : DOp)] : List DOp) := OwnL.of_box (S := fun _ => False) hB157 (Nat.le_refl _) (Nat.lt_succ_self _) (EncL.cons (c := [.int .i64 (7), .string (bs ((s_l25Write p_t p_r).Key)), .string (bs ((s_l25Write p_t p_r).Val)), .int .i64 (0)]) rfl rfl (EncL.cons (c := [.int .i64 (2), .string (bs ((s_l25Entry p_t p_x p_r))), .string (bs (([] : Str))), .int .i64 (0)]) rfl rfl EncL.nil)) (nb rfl) (fun h => h) (fun _ h => False.elim h)
  refine sA rfl (dn (CW.sub (sC 6 rfl (Sub.nil _)) (CW.ret (rr rfl (.cons rfl .nil) ?_))))
  have hM160 : (s_l26Fill p_t p_x p_r) = (([(⟨7, (s_l25Write p_t p_r).Key, (s_l25Write p_t p_r).Val, 0⟩ : DOp), (⟨2, (s_l25Entry p_t p_x p_r), ([] : Str), 0⟩ : DOp)] : List DOp)) := by simp only [s_l26Fill, cL]
  have hfx161 := (hO159).1
  rw [hM160]
  exact ⟨(some ⟨b153, 0, none⟩), 2, b153, (b153 + 1), (by first | rfl | (simp only [List.length_replicate, List.length_set]; done) | (simp only [List.length_replicate, List.length_set]; rfl) | rw [hfx161]), (OwnL.fix hO159), (okL.mk (nb rfl) (okE.cons ⟨(ok_l25Write (t := p_t) (r := p_r) oM oM (by assumption)).1, (ok_l25Write (t := p_t) (r := p_r) oM oM (by assumption)).2⟩ (okE.cons ⟨(ok_l25Entry oM (by first | exact hrow.2 | assumption)), (okS.lit rfl)⟩ okE.nil))), oM, (Ex.trans (Ex.trans (Below.only (Ex.trans (Ex.trans (Ex.trans (Ex.trans (Ex.trans (Ex.refl w) hE17) hE23) hE29) hE43) hE49) hO52 oM) hE150) hE158)⟩
theorem c_s_FillOps {A1 : Option Addr} {c1 : Nat} {A2 : Option Addr} {c2 : Nat} {A5 : Option Addr} {c5 : Nat} {w : World} (p_t : DTable) (pn : Str) (p_r : DRow) (h1 : RdS w (Iv 0 w.heap.size) (RF e_Str) 1 A1 p_t.Cols.length c1 p_t.Cols) (h2 : RdS w (Iv 0 w.heap.size) (RF e_Idx) 3 A2 p_t.Idxs.length c2 p_t.Idxs) (h5 : RdS w (Iv 0 w.heap.size) (RF e_Str) 1 A5 p_r.Vals.length c5 p_r.Vals) (o3 : ok_Table p_t) (o4 : okS pn) (o6 : ok_Row p_r) : Cal Tryz.prog 6 #[.agg #[.string (bs (p_t.Name)), .slice A1 p_t.Cols.length c1, .slice A2 p_t.Idxs.length c2], .string (bs (pn)), .agg #[.slice A5 p_r.Vals.length c5]] w fun v w' => ∃ A_1 c_1 lo_1 hi_1, v = .tuple #[.slice A_1 (((s_FillOps p_t pn p_r).1).length) c_1, .bool ((s_FillOps p_t pn p_r).2)] ∧ OwnL w' lo_1 hi_1 61 4 (RF e_Op) A_1 (((s_FillOps p_t pn p_r).1).length) c_1 ((s_FillOps p_t pn p_r).1) ∧ (okL ok_Op) ((s_FillOps p_t pn p_r).1) ∧ (w.heap.size ≤ lo_1 ∧ lo_1 ≤ hi_1 ∧ hi_1 ≤ w'.heap.size) ∧ Ex w w' := by
 have hol7 : p_t.Name.length ≤ 1073741824 := o3.1
 have hol8 := o3.2.1.1
 have hol9 := o3.2.2.1
 have hol10 : pn.length ≤ 1073741824 := o4
 have hol11 := o6.1
 refine Cal.of func6 rfl ntmps6 rfl (cR (sd rfl (yl_box rfl rfl rfl ?_)))
 intro b12 w13 hs14 hz15 hB16 hE17
 refine sd rfl (yl_box rfl rfl rfl ?_)
 intro b18 w19 hs20 hz21 hB22 hE23
 refine sA rfl (sA rfl (dn (cR ?_)))
 have q24 := Box.ex hB16 hE23
 refine sd rfl (yl_loadN ty26 rfl rfl (q24.cells (n := 3) rfl) rfl (sM rfl ?_))
 have q26 := RdS.ex gS (RdS.ex gS h1 hE17) hE23
 have q28 := RdS.ex gI (RdS.ex gI h2 hE17) hE23
 refine sd rfl (yC en18 rfl (oc rfl (oc rfl oz)) (Cal.mono (c_s_IdxAt p_t pn (RdS.up q26 gS) (RdS.up q28 gI) o3 o4) ?_))
 rintro v31 w29 ⟨rfl, ho30, hE32⟩
 have hE32z := Ex.size hE32
 refine sM rfl (sd rfl (yl_extract rfl rfl rfl (sd rfl (yl_extract rfl rfl rfl (sd rfl (yB ty54 (cs := [.string (bs (([] : Str))), .int .i64 (0), .int .i64 (0)]) rfl rfl ?_))))))
 intro b33 w34 hs35 hz36 hB37 hE38
 refine SeqR.u rfl rfl (yl_store (vs := [.string (bs ((s_IdxAt p_t pn).1.Name)), .int .i64 ((s_IdxAt p_t pn).1.Col), .int .i64 ((s_IdxAt p_t pn).1.Stage)]) ty54 rfl rfl rfl rfl rfl rfl hB37 (nb rfl) ?_)
 intro w39 hB40 hO41
 have y0 := Below.only (Ex.trans (Ex.trans (Ex.trans (Ex.trans (Ex.refl w) hE17) hE23) hE32) hE38) hO41 oM
 have hB40 : Box w39 b33 54 [.string (bs ((s_IdxAt p_t pn).1.Name)), .int .i64 ((s_IdxAt p_t pn).1.Col), .int .i64 ((s_IdxAt p_t pn).1.Stage)] := hB40
 have hO41z := hO41.size
 refine sA rfl (dn (CW.seq (cR (sM rfl (sd rfl (yl_not rfl rfl (sM rfl ?_)))))))
 refine bcase ((s_IdxAt p_t pn).2) (fun hb42 => ?_) (fun hb42 => ?_)
 ·obtain ⟨hb42p0, hb42p1, hb42p2, hb42p3⟩ := f_s_IdxAt hb42
  have q45 := Box.only (Box.ex (Box.ex q24 hE32) hE38) hO41 oM
  refine sy rfl rfl (not_t hb42) (yl_loadN ty26 rfl rfl (q45.cells (n := 3) rfl) rfl ?_)
  have q48 := Box.only (Box.ex (Box.ex hB22 hE32) hE38) hO41 oM
  refine sy rfl rfl (not_t hb42) (yl_loadN ty28 rfl rfl (q48.cells (n := 1) rfl) rfl ?_)
  have q51 := RdS.only gS (RdS.ex gS (RdS.ex gS q26 hE32) hE38) hO41 (by simp only [Iv]; omega)
  have q54 := RdS.only gI (RdS.ex gI (RdS.ex gI q28 hE32) hE38) hO41 (by simp only [Iv]; omega)
  have q59 := RdS.only gS (RdS.ex gS (RdS.ex gS (RdS.ex gS (RdS.ex gS h5 hE17) hE23) hE32) hE38) hO41 (by simp only [Iv]; omega)
  refine sy rfl rfl (not_t hb42) (yC en19 rfl (oc rfl (oc rfl oz)) (Cal.mono (c_s_l25Good p_t p_r (RdS.up q51 gS) (RdS.up q54 gI) (RdS.up q59 gS) o3 o6) ?_))
  rintro v61 w60 ⟨rfl, hE62⟩
  have hE62z := Ex.size hE62
  refine sy rfl rfl (not_t hb42) (yl_not rfl rfl (sd rfl (yl_pick_f rfl rfl (not_t hb42) rfl (dn (bcase (s_l25Good p_t p_r) (fun hb63 => ?_) (fun hb63 => ?_))))))
  ·obtain ⟨hb63p0, hb63p1⟩ := f_s_l25Good hb63
   refine CW.cond_f rfl (not_t hb63) (CW.skip (tn (cR (sd rfl (yl_loadN ty26 rfl rfl ((Box.ex q45 hE62).cells (n := 3) rfl) rfl (sd rfl (yl_loadN ty54 rfl rfl ((Box.ex hB40 hE62).cells (n := 3) rfl) rfl (sd rfl (yl_loadN ty28 rfl rfl ((Box.ex q48 hE62).cells (n := 1) rfl) rfl (sd rfl (yC en20 rfl (oc rfl (oc rfl (oc rfl oz))) (Cal.mono (c_s_l26Fill p_t ((s_IdxAt p_t pn).1) p_r (RdS.up (RdS.ex gS q51 hE62) gS) (RdS.up (RdS.ex gI q54 hE62) gI) (RdS.up (RdS.ex gS q59 hE62) gS) o3 ho30 o6 Bo Bo Bo Bo) ?_))))))))))))
   rintro v73 w70 ⟨A71, c71, lo71, hi71, rfl, h71, ho72, hrn75, hE74⟩
   have hE74z := Ex.size hE74
   refine sA rfl (sA rfl (dn (CW.ret (rr rfl (.cons rfl (.cons rfl .nil)) ?_))))
   have hM76 : (s_FillOps p_t pn p_r) = (((s_l26Fill p_t ((s_IdxAt p_t pn).1) p_r), true)) := by simp only [s_FillOps, hb42, hb63, cL]
   rw [hM76]
   exact ⟨A71, c71, lo71, hi71, rfl, h71, ho72, oM, (Ex.trans (Ex.trans y0 hE62) hE74)⟩
  ·refine CW.cond_t rfl (not_f hb63) (cR (sA rfl (sA rfl (dn (CW.ret (tr ?_))))))
   refine rr rfl (.cons rfl (.cons rfl .nil)) ?_
   have hM84 : (s_FillOps p_t pn p_r) = ((([] : List DOp), false)) := by simp only [s_FillOps, hb42, hb63, cL]
   rw [hM84]
   exact ⟨none, 0, w60.heap.size, w60.heap.size, rfl, (OwnL.nil _ _ _ _ _ _), (okL.nil _), oM, (Ex.trans y0 hE62)⟩
 ·refine sz rfl rfl (not_f hb42) (sz rfl rfl (not_f hb42) (sz rfl rfl (not_f hb42) (sz rfl rfl (not_f hb42) (sd rfl (yl_pick_t rfl rfl (not_f hb42) rfl (dn (CW.cond_t rfl rfl (CW.seq ?_))))))))
  refine CW.region (sA rfl (sA rfl (dn (CW.ret (tr (rr rfl (.cons rfl (.cons rfl .nil)) ?_))))))
  have hM91 : (s_FillOps p_t pn p_r) = ((([] : List DOp), false)) := by simp only [s_FillOps, hb42, cL]
  rw [hM91]
  exact ⟨none, 0, w39.heap.size, w39.heap.size, rfl, (OwnL.nil _ _ _ _ _ _), (okL.nil _), oM, y0⟩
@[reducible] def Y0_20 (pC : List Int) (p_2 : Str) (x108 : Str) (x110 : Int) (x111 : Int) := ([((p_2.getD ((u_pick pC ((u_pick pC (x110, x111) (x108.length : Int)).2) (p_2.length : Int)).1).toNat 0).toNat : Int)] : List Int)
@[reducible] def Y1_20 (pC : List Int) (x108 : Str) (x110 : Int) (x111 : Int) := x108.take (((u_pick pC (x110, x111) (x108.length : Int)).1).toNat)
@[reducible] def Y2_20 (pC : List Int) (x108 : Str) (x110 : Int) (x111 : Int) := x108.drop ((IntKind.wrap .i64 (((u_pick pC (x110, x111) (x108.length : Int)).1) + 1)).toNat)
@[reducible] def Y3_20 (pC : List Int) (x108 : Str) (x110 : Int) (x111 : Int) := x108.drop (((u_pick pC (x110, x111) (x108.length : Int)).1).toNat)
theorem c_u_spoilt {A3 : Option Addr} {c3 : Nat} {slo3 shi3 : Nat} {b1 : Nat} {w : World} (pC : List Int) (p_0 : Int × Int) (p_1 : Str) (p_2 : Str) (h2 : Box w b1 74 [.slice A3 pC.length c3, .int .i64 (p_0.1), .int .u64 (p_0.2)]) (h3 : RdS w (Iv slo3 shi3) (RF e_U8) 1 A3 pC.length c3 pC) (hrn4 : shi3 ≤ w.heap.size) (hrn5 : b1 < slo3 ∨ shi3 ≤ b1) (o6 : (okL okT) pC) (o7 : okS p_1) (o8 : okS p_2) (pre0 : p_1.length ≤ 1000) (pre1 : 0 < p_2.length) (pre2 : (0 ≤ p_0.1 ∧ p_0.1 ≤ 4611686018427387888)) (pre3 : codeOk pC) : Cal Tryz.prog 45 #[.pointer (some ⟨b1, 0, none⟩), .string (bs (p_1)), .string (bs (p_2))] w fun v w' => v = .string (bs ((u_spoilt pC p_0 p_1 p_2).1)) ∧ okS ((u_spoilt pC p_0 p_1 p_2).1) ∧ (p_0.1 ≤ ((u_spoilt pC p_0 p_1 p_2).2).1 ∧ ((u_spoilt pC p_0 p_1 p_2).2).1 ≤ p_0.1 + 16) ∧ Box w' b1 74 [.slice A3 pC.length c3, .int .i64 (((u_spoilt pC p_0 p_1 p_2).2).1), .int .u64 (((u_spoilt pC p_0 p_1 p_2).2).2)] ∧ Chg (InR [(b1, b1 + 1)]) w w' := by
 have hol9 := o6.1
 have hbx10 := Box.lt h2
 have hol11 : p_1.length ≤ 1073741824 := o7
 have hol12 : p_2.length ≤ 1073741824 := o8
 refine Cal.of func45 rfl ntmps45 rfl (cR (sA rfl (dn (CW.seq (cR ?_)))))
 refine sM rfl (sd rfl (yC en60 rfl (oc rfl (oc rfl oz)) (Cal.mono (c_u_pick pC p_0 2 h2 h3 oM oM o6 oM (by assumption)) ?_)))
 rintro v16 w13 ⟨rfl, hp14, hp15, hB18, hc17⟩
 have hc17z := Chg.size hc17
 have hB18z := Box.lt hB18
 refine sd rfl (yl_add rfl rfl rfl (sA rfl (dn (CW.block (CW.loop (fun m112 L113 w114 => ∃ (x108 : Str) (x109 : Int) (x110 : Int) (x111 : Int), ((x109).toNat) < m112 ∧ w13.heap.size ≤ w114.heap.size ∧ lkp L113 0 = some (.pointer (some ⟨b1, 0, none⟩)) ∧ lkp L113 1 = some (.string (bs (x108))) ∧ lkp L113 2 = some (.string (bs (p_2))) ∧ lkp L113 7 = some (.int .i64 (x109)) ∧ Box w114 b1 74 [.slice A3 pC.length c3, .int .i64 (x110), .int .u64 (x111)] ∧ RdS w114 (Iv slo3 shi3) (RF e_U8) 1 A3 pC.length c3 pC ∧ Chg (InR [(b1, b1 + 1)]) w w114 ∧ x108.length + 1 * ((x109).toNat) ≤ p_1.length + 1 * ((IntKind.wrap .i64 (1 + ((u_pick pC p_0 2).1))).toNat) ∧ (((x108.length : Nat) : Int) + x109 ≤ (p_1.length : Int) + 2) ∧ (p_0.1 ≤ x110 ∧ x110 + 6 * x109 ≤ p_0.1 + 14) ∧ (0 ≤ x109 ∧ x109 ≤ 2) ∧ loopW (B_u_spoilt_0 pC p_0 p_1 p_2) m112 (x108, x109, x110, x111) = loopW (B_u_spoilt_0 pC p_0 p_1 p_2) (((IntKind.wrap .i64 (1 + ((u_pick pC p_0 2).1))).toNat) + 1) (p_1, IntKind.wrap .i64 (1 + ((u_pick pC p_0 2).1)), ((u_pick pC p_0 2).2).1, ((u_pick pC p_0 2).2).2)) (((IntKind.wrap .i64 (1 + ((u_pick pC p_0 2).1))).toNat) + 1) ?_ ?_)))))
 ·exact ⟨p_1, IntKind.wrap .i64 (1 + ((u_pick pC p_0 2).1)), ((u_pick pC p_0 2).2).1, ((u_pick pC p_0 2).2).2, Nat.lt_succ_self _, Nat.le_refl _, rfl, rfl, rfl, rfl, hB18, (RdS.chg gU h3 hc17 Bi), (Chg.tchg (Chg.refl (InR [(b1, b1 + 1)]) w) hc17 (fun k hk => by simp only [InR, or_false] at hk ⊢; omega)), (by first | (simp; done) | (first | omega | assumption | (simp only [List.length_append, List.length_take, List.length_drop, List.length_cons, List.length_nil, toS_length, wI]; omega) | (simp only [List.length_append, List.length_take, List.length_drop, List.length_cons, List.length_nil, toS_length, wI] at *; omega))), (by first | omega | assumption | (simp only [List.length_append, List.length_take, List.length_drop, List.length_cons, List.length_nil, toS_length, wI]; omega) | (simp only [List.length_append, List.length_take, List.length_drop, List.length_cons, List.length_nil, toS_length, wI] at *; omega)), (by first | omega | assumption | (simp only [List.length_append, List.length_take, List.length_drop, List.length_cons, List.length_nil, toS_length, wI]; omega) | (simp only [List.length_append, List.length_take, List.length_drop, List.length_cons, List.length_nil, toS_length, wI] at *; omega)), (by first | omega | assumption | (simp only [List.length_append, List.length_take, List.length_drop, List.length_cons, List.length_nil, toS_length, wI]; omega) | (simp only [List.length_append, List.length_take, List.length_drop, List.length_cons, List.length_nil, toS_length, wI] at *; omega)), rfl⟩
 ·rintro m117 L118 w119 ⟨x108, x109, x110, x111, hk120, hsz122, hl123, hl124, hl125, hl126, hf127, hf128, hf129, hln130, hv131, hv132, hv133, hI121⟩
  refine CW.sub (Sub.cons hl123 (Sub.cons hl124 (Sub.cons hl125 (Sub.cons hl126 (Sub.nil _))))) ?_
  have hf127z := Box.lt hf127
  have hf129z := Chg.size hf129
  refine CW.seq (cR (sM rfl (sd rfl (yl_gtr rfl rfl rfl (sM rfl (bcase (decide (0 < x109)) (fun hb134 => ?_) (fun hb134 => ?_)))))))
  ·have hb134p := dec_t hb134
   refine sy rfl rfl hb134 (yM rfl rfl (sy rfl rfl hb134 (yl_slen un9 (a := x108) rfl rfl (sy rfl rfl hb134 (yl_gtr rfl rfl rfl (sd rfl (yl_pick_t rfl rfl hb134 rfl (dn (bcase (decide (0 < (x108.length : Int))) (fun hb135 => ?_) (fun hb135 => ?_))))))))))
   ·have hb135p := dec_t hb135
    refine CW.cond_t rfl hb135 (CW.skip (tn (CW.seq (CW.block (cR (sM rfl (sM rfl ?_)))))))
    refine sd rfl (yl_slen un9 (a := x108) rfl rfl (sd rfl (yC en60 rfl (oc rfl (oc rfl oz)) (Cal.mono (c_u_pick pC (x110, x111) (x108.length : Int) hf127 hf128 oM oM o6 oM (by assumption)) ?_))))
    rintro v139 w136 ⟨rfl, hp137, hp138, hB141, hc140⟩
    have hc140z := Chg.size hc140
    have hB141z := Box.lt hB141
    refine sA rfl (dn (cR (sM rfl (sM rfl (sM rfl (sd rfl (yl_slen un9 (a := p_2) rfl rfl ?_)))))))
    have q142 := RdS.chg gU hf128 hc140 Bi
    refine sd rfl (yC en60 rfl (oc rfl (oc rfl oz)) (Cal.mono (c_u_pick pC ((u_pick pC (x110, x111) (x108.length : Int)).2) (p_2.length : Int) hB141 q142 oM oM o6 oM (by assumption)) ?_))
    rintro v146 w143 ⟨rfl, hp144, hp145, hB148, hc147⟩
    have hc147z := Chg.size hc147
    have hB148z := Box.lt hB148
    refine sd rfl (yl_sindex un9 (a := p_2) rfl rfl rfl Bo Bo (sd rfl (yl_buildSlice (cs := [.int .u8 (((p_2.getD ((u_pick pC ((u_pick pC (x110, x111) (x108.length : Int)).2) (p_2.length : Int)).1).toNat 0).toNat : Int))]) un22 ty5 (by decide) rfl (oc rfl oz) (by kernel_rfl) ?_)))
    intro b149 w150 hs151 hz152 hB153 hE154
    have hO155 : OwnL w150 b149 (b149 + 1) 5 1 (RF e_U8) (some ⟨b149, 0, none⟩) 1 1 (Y0_20 pC p_2 x108 x110 x111) := OwnL.of_box (S := fun _ => False) hB153 (Nat.le_refl _) (Nat.lt_succ_self _) (EncL.cons (c := [.int .u8 (((p_2.getD ((u_pick pC ((u_pick pC (x110, x111) (x108.length : Int)).2) (p_2.length : Int)).1).toNat 0).toNat : Int))]) rfl rfl EncL.nil) (nb rfl) (fun h => h) (fun _ h => False.elim h)
    refine sd rfl (yl_toS un22 un5 un9 rfl rfl (OwnL.rd gU hO155) (sA rfl (dn (cR (sM rfl ?_)))))
    have q159 := RdS.ex gU (RdS.chg gU q142 hc147 Bi) hE154
    refine sd rfl (yC en60 rfl (oc rfl (oc rfl oz)) (Cal.mono (c_u_pick pC ((u_pick pC ((u_pick pC (x110, x111) (x108.length : Int)).2) (p_2.length : Int)).2) 3 (Box.ex hB148 hE154) q159 oM oM o6 oM (by assumption)) ?_))
    rintro v163 w160 ⟨rfl, hp161, hp162, hB165, hc164⟩
    have hc164z := Chg.size hc164
    have hB165z := Box.lt hB165
    have y1 := RdS.chg gU q159 hc164 Bi
    have y0 := Chg.tchg (Chg.tex (Chg.tchg (Chg.tchg hf129 hc140 (fun k hk => by simp only [InR, or_false] at hk ⊢; omega)) hc147 (fun k hk => by simp only [InR, or_false] at hk ⊢; omega)) hE154) hc164 (fun k hk => by simp only [InR, or_false] at hk ⊢; omega)
    refine dn (CW.block (cR (sd rfl (yl_eql rfl rfl rfl (sA rfl (dn ?_))))))
    refine bcase (decide (((u_pick pC ((u_pick pC ((u_pick pC (x110, x111) (x108.length : Int)).2) (p_2.length : Int)).2) 3).1) = 0)) (fun hb166 => ?_) (fun hb166 => ?_)
    ·have hb166p := dec_t hb166
     refine CW.cond_t rfl hb166 ?_
     have hol167 : (Y1_20 pC x108 x110 x111).length ≤ 1073741824 := (okS.take (by unfold okS; (try dsimp only); omega) _)
     have hol168 : (toS (Y0_20 pC p_2 x108 x110 x111)).length ≤ 1073741824 := (okS_toS (nb rfl))
     have hol169 : (Y1_20 pC x108 x110 x111).length ≤ 1073741824 := (okS.take (by unfold okS; (try dsimp only); omega) _)
     have hol170 : (toS (Y0_20 pC p_2 x108 x110 x111)).length ≤ 1073741824 := (okS_toS (nb rfl))
     have hol171 : (Y3_20 pC x108 x110 x111).length ≤ 1073741824 := (okS.drop (by unfold okS; (try dsimp only); omega) _)
     refine drI 10 [.string (bs (x108)), .int .i64 ((u_pick pC (x110, x111) (x108.length : Int)).1), .string (bs ((Y1_20 pC x108 x110 x111))), .string (bs (toS (Y0_20 pC p_2 x108 x110 x111))), .string (bs ((Y1_20 pC x108 x110 x111) ++ (toS (Y0_20 pC p_2 x108 x110 x111)))), .string (bs (x108)), .int .i64 ((u_pick pC (x110, x111) (x108.length : Int)).1), .string (bs ((Y3_20 pC x108 x110 x111))), .string (bs (((Y1_20 pC x108 x110 x111) ++ (toS (Y0_20 pC p_2 x108 x110 x111))) ++ (Y3_20 pC x108 x110 x111))), .string (bs (((Y1_20 pC x108 x110 x111) ++ (toS (Y0_20 pC p_2 x108 x110 x111))) ++ (Y3_20 pC x108 x110 x111)))] Tryz.follows rfl ⟨?_, ?_, ?_, ?_, ?_, ?_, ?_, ?_, ?_, ?_, trivial⟩ ?_
     ·exact oI rfl fun h => yM rfl (h.old 1 _ rfl rfl) kI
     ·exact oI rfl fun h => yM rfl (h.old 8 _ rfl rfl) kI
     ·intro L182 w183 hi184
      have hE185 := hi184.ex
      have hE185z := Ex.size hE185
      exact os rfl ((yl_sslice_hi un9 (a := x108) (h := ((u_pick pC (x110, x111) (x108.length : Int)).1).toNat) rfl (hi184.dt 0 46 rfl rfl rfl) (toNat_op (hi184.dt 1 47 rfl rfl rfl) Bo) Bo kI))
     ·exact oI rfl fun h => yM rfl (h.old 9 _ rfl rfl) kI
     ·intro L193 w194 hi195
      have hE196 := hi195.ex
      have hE196z := Ex.size hE196
      have hol199 : (Y1_20 pC x108 x110 x111).length ≤ 1073741824 := (okS.take (by unfold okS; (try dsimp only); omega) _)
      have hol200 : (toS (Y0_20 pC p_2 x108 x110 x111)).length ≤ 1073741824 := (okS_toS (nb rfl))
      exact os rfl ((yl_sadd (a := (Y1_20 pC x108 x110 x111)) (b := (toS (Y0_20 pC p_2 x108 x110 x111))) rfl (hi195.dt 2 48 rfl rfl rfl) (hi195.dt 3 49 rfl rfl rfl) Bl kI))
     ·exact oI rfl fun h => yM rfl (h.old 1 _ rfl rfl) kI
     ·exact oI rfl fun h => yM rfl (h.old 8 _ rfl rfl) kI
     ·intro L211 w212 hi213
      have hE214 := hi213.ex
      have hE214z := Ex.size hE214
      exact os rfl ((yl_sslice_lo un9 (a := x108) (l := ((u_pick pC (x110, x111) (x108.length : Int)).1).toNat) rfl (hi213.dt 5 51 rfl rfl rfl) (toNat_op (hi213.dt 6 52 rfl rfl rfl) Bo) Bo kI))
     ·intro L217 w218 hi219
      have hE220 := hi219.ex
      have hE220z := Ex.size hE220
      have hol223 : (Y1_20 pC x108 x110 x111).length ≤ 1073741824 := (okS.take (by unfold okS; (try dsimp only); omega) _)
      have hol224 : (toS (Y0_20 pC p_2 x108 x110 x111)).length ≤ 1073741824 := (okS_toS (nb rfl))
      have hol225 : (Y3_20 pC x108 x110 x111).length ≤ 1073741824 := (okS.drop (by unfold okS; (try dsimp only); omega) _)
      exact os rfl ((yl_sadd (a := ((Y1_20 pC x108 x110 x111) ++ (toS (Y0_20 pC p_2 x108 x110 x111)))) (b := (Y3_20 pC x108 x110 x111)) rfl (hi219.dt 4 50 rfl rfl rfl) (hi219.dt 7 53 rfl rfl rfl) Bl kI))
     ·exact oI rfl fun h => yA rfl (h.dt 8 54 rfl rfl rfl) kI
     ·intro fl234 fh235 L231 w232 hp233
      have hE236 := hp233.ex
      have hE236z := Ex.size hE236
      refine SeqR.done (bn (bn (tn (CW.sub (sC 0 (hp233.old 0 _ rfl rfl) (sC 1 (hp233.nt 9 1 rfl rfl rfl) (sC 2 (hp233.old 2 _ rfl rfl) (sC 7 (hp233.old 7 _ rfl rfl) (sC 16 (hp233.old 16 _ rfl rfl) (sC 17 (hp233.old 17 _ rfl rfl) (sC 18 (hp233.old 18 _ rfl rfl) (Sub.nil _)))))))) (CW.region (sM rfl (sd rfl (yl_sub rfl rfl rfl (sA rfl ?_)))))))))
      refine dn ?_
      have hB244 : B_u_spoilt_0 pC p_0 p_1 p_2 (x108, x109, x110, x111) = .cont (((Y1_20 pC x108 x110 x111) ++ (toS (Y0_20 pC p_2 x108 x110 x111))) ++ (Y3_20 pC x108 x110 x111), IntKind.wrap .i64 (x109 - 1), ((u_pick pC ((u_pick pC ((u_pick pC (x110, x111) (x108.length : Int)).2) (p_2.length : Int)).2) 3).2).1, ((u_pick pC ((u_pick pC ((u_pick pC (x110, x111) (x108.length : Int)).2) (p_2.length : Int)).2) 3).2).2) := by simp only [B_u_spoilt_0, hb134, hb135, hb166, cL]
      have hmu253 : ((IntKind.wrap .i64 (x109 - 1)).toNat) < ((x109).toNat) := by first | omega | assumption | (simp only [List.length_append, List.length_take, List.length_drop, List.length_cons, List.length_nil, toS_length, wI]; omega) | (simp only [List.length_append, List.length_take, List.length_drop, List.length_cons, List.length_nil, toS_length, wI] at *; omega)
      exact ⟨m117 - 1, oM, ((Y1_20 pC x108 x110 x111) ++ (toS (Y0_20 pC p_2 x108 x110 x111))) ++ (Y3_20 pC x108 x110 x111), IntKind.wrap .i64 (x109 - 1), ((u_pick pC ((u_pick pC ((u_pick pC (x110, x111) (x108.length : Int)).2) (p_2.length : Int)).2) 3).2).1, ((u_pick pC ((u_pick pC ((u_pick pC (x110, x111) (x108.length : Int)).2) (p_2.length : Int)).2) 3).2).2, oM, oM, rfl, rfl, rfl, rfl, (Box.ex hB165 hE236), (RdS.ex gU y1 hE236), (Chg.tex y0 hE236), (by first | omega | assumption | (simp only [List.length_append, List.length_take, List.length_drop, List.length_cons, List.length_nil, toS_length, wI]; omega) | (simp only [List.length_append, List.length_take, List.length_drop, List.length_cons, List.length_nil, toS_length, wI] at *; omega)), (by first | omega | assumption | (simp only [List.length_append, List.length_take, List.length_drop, List.length_cons, List.length_nil, toS_length, wI]; omega) | (simp only [List.length_append, List.length_take, List.length_drop, List.length_cons, List.length_nil, toS_length, wI] at *; omega)), (by first | omega | assumption | (simp only [List.length_append, List.length_take, List.length_drop, List.length_cons, List.length_nil, toS_length, wI]; omega) | (simp only [List.length_append, List.length_take, List.length_drop, List.length_cons, List.length_nil, toS_length, wI] at *; omega)), (by first | omega | assumption | (simp only [List.length_append, List.length_take, List.length_drop, List.length_cons, List.length_nil, toS_length, wI]; omega) | (simp only [List.length_append, List.length_take, List.length_drop, List.length_cons, List.length_nil, toS_length, wI] at *; omega)), (loopW.cont hk120 hB244).symm.trans hI121⟩
    ·have hb166p := dec_f hb166
     refine CW.cond_f rfl hb166 (cR (sd rfl (yl_eql rfl rfl rfl (sA rfl (dn (bcase (decide (((u_pick pC ((u_pick pC ((u_pick pC (x110, x111) (x108.length : Int)).2) (p_2.length : Int)).2) 3).1) = 1)) (fun hb254 => ?_) (fun hb254 => ?_)))))))
     ·have hb254p := dec_t hb254
      refine CW.cond_t rfl hb254 ?_
      have hol255 : (Y1_20 pC x108 x110 x111).length ≤ 1073741824 := (okS.take (by unfold okS; (try dsimp only); omega) _)
      have hol256 : (toS (Y0_20 pC p_2 x108 x110 x111)).length ≤ 1073741824 := (okS_toS (nb rfl))
      have hol257 : (Y1_20 pC x108 x110 x111).length ≤ 1073741824 := (okS.take (by unfold okS; (try dsimp only); omega) _)
      have hol258 : (toS (Y0_20 pC p_2 x108 x110 x111)).length ≤ 1073741824 := (okS_toS (nb rfl))
      have hol259 : (Y2_20 pC x108 x110 x111).length ≤ 1073741824 := (okS.drop (by unfold okS; (try dsimp only); omega) _)
      refine drI 11 [.string (bs (x108)), .int .i64 ((u_pick pC (x110, x111) (x108.length : Int)).1), .string (bs ((Y1_20 pC x108 x110 x111))), .string (bs (toS (Y0_20 pC p_2 x108 x110 x111))), .string (bs ((Y1_20 pC x108 x110 x111) ++ (toS (Y0_20 pC p_2 x108 x110 x111)))), .string (bs (x108)), .int .i64 ((u_pick pC (x110, x111) (x108.length : Int)).1), .int .i64 (IntKind.wrap .i64 (((u_pick pC (x110, x111) (x108.length : Int)).1) + 1)), .string (bs ((Y2_20 pC x108 x110 x111))), .string (bs (((Y1_20 pC x108 x110 x111) ++ (toS (Y0_20 pC p_2 x108 x110 x111))) ++ (Y2_20 pC x108 x110 x111))), .string (bs (((Y1_20 pC x108 x110 x111) ++ (toS (Y0_20 pC p_2 x108 x110 x111))) ++ (Y2_20 pC x108 x110 x111)))] Tryz.follows rfl ⟨?_, ?_, ?_, ?_, ?_, ?_, ?_, ?_, ?_, ?_, ?_, trivial⟩ ?_
      ·exact oI rfl fun h => yM rfl (h.old 1 _ rfl rfl) kI
      ·exact oI rfl fun h => yM rfl (h.old 8 _ rfl rfl) kI
      ·intro L270 w271 hi272
       have hE273 := hi272.ex
       have hE273z := Ex.size hE273
       exact os rfl ((yl_sslice_hi un9 (a := x108) (h := ((u_pick pC (x110, x111) (x108.length : Int)).1).toNat) rfl (hi272.dt 0 57 rfl rfl rfl) (toNat_op (hi272.dt 1 58 rfl rfl rfl) Bo) Bo kI))
      ·exact oI rfl fun h => yM rfl (h.old 9 _ rfl rfl) kI
      ·intro L281 w282 hi283
       have hE284 := hi283.ex
       have hE284z := Ex.size hE284
       have hol287 : (Y1_20 pC x108 x110 x111).length ≤ 1073741824 := (okS.take (by unfold okS; (try dsimp only); omega) _)
       have hol288 : (toS (Y0_20 pC p_2 x108 x110 x111)).length ≤ 1073741824 := (okS_toS (nb rfl))
       exact os rfl ((yl_sadd (a := (Y1_20 pC x108 x110 x111)) (b := (toS (Y0_20 pC p_2 x108 x110 x111))) rfl (hi283.dt 2 59 rfl rfl rfl) (hi283.dt 3 60 rfl rfl rfl) Bl kI))
      ·exact oI rfl fun h => yM rfl (h.old 1 _ rfl rfl) kI
      ·exact oI rfl fun h => yM rfl (h.old 8 _ rfl rfl) kI
      ·exact oI rfl fun h => yl_add rfl (h.dt 6 63 rfl rfl rfl) rfl kI
      ·intro L304 w305 hi306
       have hE307 := hi306.ex
       have hE307z := Ex.size hE307
       exact os rfl ((yl_sslice_lo un9 (a := x108) (l := (IntKind.wrap .i64 (((u_pick pC (x110, x111) (x108.length : Int)).1) + 1)).toNat) rfl (hi306.dt 5 62 rfl rfl rfl) (toNat_op (hi306.dt 7 64 rfl rfl rfl) Bo) Bo kI))
      ·intro L310 w311 hi312
       have hE313 := hi312.ex
       have hE313z := Ex.size hE313
       have hol316 : (Y1_20 pC x108 x110 x111).length ≤ 1073741824 := (okS.take (by unfold okS; (try dsimp only); omega) _)
       have hol317 : (toS (Y0_20 pC p_2 x108 x110 x111)).length ≤ 1073741824 := (okS_toS (nb rfl))
       have hol318 : (Y2_20 pC x108 x110 x111).length ≤ 1073741824 := (okS.drop (by unfold okS; (try dsimp only); omega) _)
       exact os rfl ((yl_sadd (a := ((Y1_20 pC x108 x110 x111) ++ (toS (Y0_20 pC p_2 x108 x110 x111)))) (b := (Y2_20 pC x108 x110 x111)) rfl (hi312.dt 4 61 rfl rfl rfl) (hi312.dt 8 65 rfl rfl rfl) Bl kI))
      ·exact oI rfl fun h => yA rfl (h.dt 9 66 rfl rfl rfl) kI
      ·intro fl327 fh328 L324 w325 hp326
       have hE329 := hp326.ex
       have hE329z := Ex.size hE329
       refine SeqR.done (bn (bn (tn (CW.sub (sC 0 (hp326.old 0 _ rfl rfl) (sC 1 (hp326.nt 10 1 rfl rfl rfl) (sC 2 (hp326.old 2 _ rfl rfl) (sC 7 (hp326.old 7 _ rfl rfl) (sC 16 (hp326.old 16 _ rfl rfl) (sC 17 (hp326.old 17 _ rfl rfl) (sC 18 (hp326.old 18 _ rfl rfl) (Sub.nil _)))))))) (CW.region (sM rfl (sd rfl (yl_sub rfl rfl rfl (sA rfl ?_)))))))))
       refine dn ?_
       have hB337 : B_u_spoilt_0 pC p_0 p_1 p_2 (x108, x109, x110, x111) = .cont (((Y1_20 pC x108 x110 x111) ++ (toS (Y0_20 pC p_2 x108 x110 x111))) ++ (Y2_20 pC x108 x110 x111), IntKind.wrap .i64 (x109 - 1), ((u_pick pC ((u_pick pC ((u_pick pC (x110, x111) (x108.length : Int)).2) (p_2.length : Int)).2) 3).2).1, ((u_pick pC ((u_pick pC ((u_pick pC (x110, x111) (x108.length : Int)).2) (p_2.length : Int)).2) 3).2).2) := by simp only [B_u_spoilt_0, hb134, hb135, hb166, hb254, cL]
       have hmu346 : ((IntKind.wrap .i64 (x109 - 1)).toNat) < ((x109).toNat) := by first | omega | assumption | (simp only [List.length_append, List.length_take, List.length_drop, List.length_cons, List.length_nil, toS_length, wI]; omega) | (simp only [List.length_append, List.length_take, List.length_drop, List.length_cons, List.length_nil, toS_length, wI] at *; omega)
       exact ⟨m117 - 1, oM, ((Y1_20 pC x108 x110 x111) ++ (toS (Y0_20 pC p_2 x108 x110 x111))) ++ (Y2_20 pC x108 x110 x111), IntKind.wrap .i64 (x109 - 1), ((u_pick pC ((u_pick pC ((u_pick pC (x110, x111) (x108.length : Int)).2) (p_2.length : Int)).2) 3).2).1, ((u_pick pC ((u_pick pC ((u_pick pC (x110, x111) (x108.length : Int)).2) (p_2.length : Int)).2) 3).2).2, oM, oM, rfl, rfl, rfl, rfl, (Box.ex hB165 hE329), (RdS.ex gU y1 hE329), (Chg.tex y0 hE329), (by first | omega | assumption | (simp only [List.length_append, List.length_take, List.length_drop, List.length_cons, List.length_nil, toS_length, wI]; omega) | (simp only [List.length_append, List.length_take, List.length_drop, List.length_cons, List.length_nil, toS_length, wI] at *; omega)), (by first | omega | assumption | (simp only [List.length_append, List.length_take, List.length_drop, List.length_cons, List.length_nil, toS_length, wI]; omega) | (simp only [List.length_append, List.length_take, List.length_drop, List.length_cons, List.length_nil, toS_length, wI] at *; omega)), (by first | omega | assumption | (simp only [List.length_append, List.length_take, List.length_drop, List.length_cons, List.length_nil, toS_length, wI]; omega) | (simp only [List.length_append, List.length_take, List.length_drop, List.length_cons, List.length_nil, toS_length, wI] at *; omega)), (by first | omega | assumption | (simp only [List.length_append, List.length_take, List.length_drop, List.length_cons, List.length_nil, toS_length, wI]; omega) | (simp only [List.length_append, List.length_take, List.length_drop, List.length_cons, List.length_nil, toS_length, wI] at *; omega)), (loopW.cont hk120 hB337).symm.trans hI121⟩
     ·have hb254p := dec_f hb254
      refine CW.cond_f rfl hb254 ?_
      have hol347 : (Y1_20 pC x108 x110 x111).length ≤ 1073741824 := (okS.take (by unfold okS; (try dsimp only); omega) _)
      have hol348 : (Y2_20 pC x108 x110 x111).length ≤ 1073741824 := (okS.drop (by unfold okS; (try dsimp only); omega) _)
      refine drI 9 [.string (bs (x108)), .int .i64 ((u_pick pC (x110, x111) (x108.length : Int)).1), .string (bs ((Y1_20 pC x108 x110 x111))), .string (bs (x108)), .int .i64 ((u_pick pC (x110, x111) (x108.length : Int)).1), .int .i64 (IntKind.wrap .i64 (((u_pick pC (x110, x111) (x108.length : Int)).1) + 1)), .string (bs ((Y2_20 pC x108 x110 x111))), .string (bs ((Y1_20 pC x108 x110 x111) ++ (Y2_20 pC x108 x110 x111))), .string (bs ((Y1_20 pC x108 x110 x111) ++ (Y2_20 pC x108 x110 x111)))] Tryz.follows rfl ⟨?_, ?_, ?_, ?_, ?_, ?_, ?_, ?_, ?_, trivial⟩ ?_
      ·exact oI rfl fun h => yM rfl (h.old 1 _ rfl rfl) kI
      ·exact oI rfl fun h => yM rfl (h.old 8 _ rfl rfl) kI
      ·intro L359 w360 hi361
       have hE362 := hi361.ex
       have hE362z := Ex.size hE362
       exact os rfl ((yl_sslice_hi un9 (a := x108) (h := ((u_pick pC (x110, x111) (x108.length : Int)).1).toNat) rfl (hi361.dt 0 36 rfl rfl rfl) (toNat_op (hi361.dt 1 37 rfl rfl rfl) Bo) Bo kI))
      ·exact oI rfl fun h => yM rfl (h.old 1 _ rfl rfl) kI
      ·exact oI rfl fun h => yM rfl (h.old 8 _ rfl rfl) kI
      ·exact oI rfl fun h => yl_add rfl (h.dt 4 40 rfl rfl rfl) rfl kI
      ·intro L380 w381 hi382
       have hE383 := hi382.ex
       have hE383z := Ex.size hE383
       exact os rfl ((yl_sslice_lo un9 (a := x108) (l := (IntKind.wrap .i64 (((u_pick pC (x110, x111) (x108.length : Int)).1) + 1)).toNat) rfl (hi382.dt 3 39 rfl rfl rfl) (toNat_op (hi382.dt 5 41 rfl rfl rfl) Bo) Bo kI))
      ·intro L386 w387 hi388
       have hE389 := hi388.ex
       have hE389z := Ex.size hE389
       have hol392 : (Y1_20 pC x108 x110 x111).length ≤ 1073741824 := (okS.take (by unfold okS; (try dsimp only); omega) _)
       have hol393 : (Y2_20 pC x108 x110 x111).length ≤ 1073741824 := (okS.drop (by unfold okS; (try dsimp only); omega) _)
       exact os rfl ((yl_sadd (a := (Y1_20 pC x108 x110 x111)) (b := (Y2_20 pC x108 x110 x111)) rfl (hi388.dt 2 38 rfl rfl rfl) (hi388.dt 6 42 rfl rfl rfl) Bl kI))
      ·exact oI rfl fun h => yA rfl (h.dt 7 43 rfl rfl rfl) kI
      ·intro fl402 fh403 L399 w400 hp401
       have hE404 := hp401.ex
       have hE404z := Ex.size hE404
       refine SeqR.done (bn (bn (tn (CW.sub (sC 0 (hp401.old 0 _ rfl rfl) (sC 1 (hp401.nt 8 1 rfl rfl rfl) (sC 2 (hp401.old 2 _ rfl rfl) (sC 7 (hp401.old 7 _ rfl rfl) (sC 16 (hp401.old 16 _ rfl rfl) (sC 17 (hp401.old 17 _ rfl rfl) (sC 18 (hp401.old 18 _ rfl rfl) (Sub.nil _)))))))) (CW.region (sM rfl (sd rfl (yl_sub rfl rfl rfl (sA rfl ?_)))))))))
       refine dn ?_
       have hB412 : B_u_spoilt_0 pC p_0 p_1 p_2 (x108, x109, x110, x111) = .cont ((Y1_20 pC x108 x110 x111) ++ (Y2_20 pC x108 x110 x111), IntKind.wrap .i64 (x109 - 1), ((u_pick pC ((u_pick pC ((u_pick pC (x110, x111) (x108.length : Int)).2) (p_2.length : Int)).2) 3).2).1, ((u_pick pC ((u_pick pC ((u_pick pC (x110, x111) (x108.length : Int)).2) (p_2.length : Int)).2) 3).2).2) := by simp only [B_u_spoilt_0, hb134, hb135, hb166, hb254, cL]
       have hmu421 : ((IntKind.wrap .i64 (x109 - 1)).toNat) < ((x109).toNat) := by first | omega | assumption | (simp only [List.length_append, List.length_take, List.length_drop, List.length_cons, List.length_nil, toS_length, wI]; omega) | (simp only [List.length_append, List.length_take, List.length_drop, List.length_cons, List.length_nil, toS_length, wI] at *; omega)
       exact ⟨m117 - 1, oM, (Y1_20 pC x108 x110 x111) ++ (Y2_20 pC x108 x110 x111), IntKind.wrap .i64 (x109 - 1), ((u_pick pC ((u_pick pC ((u_pick pC (x110, x111) (x108.length : Int)).2) (p_2.length : Int)).2) 3).2).1, ((u_pick pC ((u_pick pC ((u_pick pC (x110, x111) (x108.length : Int)).2) (p_2.length : Int)).2) 3).2).2, oM, oM, rfl, rfl, rfl, rfl, (Box.ex hB165 hE404), (RdS.ex gU y1 hE404), (Chg.tex y0 hE404), (by first | omega | assumption | (simp only [List.length_append, List.length_take, List.length_drop, List.length_cons, List.length_nil, toS_length, wI]; omega) | (simp only [List.length_append, List.length_take, List.length_drop, List.length_cons, List.length_nil, toS_length, wI] at *; omega)), (by first | omega | assumption | (simp only [List.length_append, List.length_take, List.length_drop, List.length_cons, List.length_nil, toS_length, wI]; omega) | (simp only [List.length_append, List.length_take, List.length_drop, List.length_cons, List.length_nil, toS_length, wI] at *; omega)), (by first | omega | assumption | (simp only [List.length_append, List.length_take, List.length_drop, List.length_cons, List.length_nil, toS_length, wI]; omega) | (simp only [List.length_append, List.length_take, List.length_drop, List.length_cons, List.length_nil, toS_length, wI] at *; omega)), (by first | omega | assumption | (simp only [List.length_append, List.length_take, List.length_drop, List.length_cons, List.length_nil, toS_length, wI]; omega) | (simp only [List.length_append, List.length_take, List.length_drop, List.length_cons, List.length_nil, toS_length, wI] at *; omega)), (loopW.cont hk120 hB412).symm.trans hI121⟩
   ·have hb135p := dec_f hb135
    refine CW.cond_f rfl hb135 (CW.exit (tx (tx ?_)))
    have hB423 : B_u_spoilt_0 pC p_0 p_1 p_2 (x108, x109, x110, x111) = .brk (x108, x109, x110, x111) := by simp only [B_u_spoilt_0, hb134, hb135, cL]
    have hL422 : loopW (B_u_spoilt_0 pC p_0 p_1 p_2) (((IntKind.wrap .i64 (1 + ((u_pick pC p_0 2).1))).toNat) + 1) (p_1, IntKind.wrap .i64 (1 + ((u_pick pC p_0 2).1)), ((u_pick pC p_0 2).2).1, ((u_pick pC p_0 2).2).2) = .done (x108, x109, x110, x111) := hI121.symm.trans (loopW.brk hk120 hB423)
    refine bx (tn (cR (sM rfl (sA rfl (dn (CW.ret ?_))))))
    refine rr rfl (.cons rfl .nil) ?_
    have hM424 : (u_spoilt pC p_0 p_1 p_2) = ((x108, (x110, x111))) := by first | (simp only [u_spoilt, hL422, cond_true, cond_false, loopE_done, loopE_ret, pairE]; done) | (simp only [u_spoilt, hb134, hb135, hL422, cL]; done) | (simp only [u_spoilt, hb134, hb135, hL422, cond_true, cond_false, loopE_done, loopE_ret, pairE]; done) | exact (show (u_spoilt pC p_0 p_1 p_2) = ((x108, (x110, x111))) from by simp only [u_spoilt, hb134, hb135, hL422, cond_true, cond_false, loopE_done, loopE_ret, pairE])
    rw [hM424]
    exact ⟨rfl, (by unfold okS; (try dsimp only); omega), (by (try dsimp only); first | omega | assumption | (simp only [wI] at *; omega)), hf127, hf129⟩
  ·have hb134p := dec_f hb134
   refine sz rfl rfl hb134 (sz rfl rfl hb134 (sz rfl rfl hb134 (sd rfl (yl_pick_f rfl rfl hb134 rfl (dn (CW.cond_f rfl rfl (CW.exit (tx ?_))))))))
   refine tx ?_
   have hB426 : B_u_spoilt_0 pC p_0 p_1 p_2 (x108, x109, x110, x111) = .brk (x108, x109, x110, x111) := by simp only [B_u_spoilt_0, hb134, cL]
   have hL425 : loopW (B_u_spoilt_0 pC p_0 p_1 p_2) (((IntKind.wrap .i64 (1 + ((u_pick pC p_0 2).1))).toNat) + 1) (p_1, IntKind.wrap .i64 (1 + ((u_pick pC p_0 2).1)), ((u_pick pC p_0 2).2).1, ((u_pick pC p_0 2).2).2) = .done (x108, x109, x110, x111) := hI121.symm.trans (loopW.brk hk120 hB426)
   refine bx (tn (cR (sM rfl (sA rfl (dn (CW.ret ?_))))))
   refine rr rfl (.cons rfl .nil) ?_
   have hM427 : (u_spoilt pC p_0 p_1 p_2) = ((x108, (x110, x111))) := by first | (simp only [u_spoilt, hL425, cond_true, cond_false, loopE_done, loopE_ret, pairE]; done) | (simp only [u_spoilt, hb134, hL425, cL]; done) | (simp only [u_spoilt, hb134, hL425, cond_true, cond_false, loopE_done, loopE_ret, pairE]; done) | exact (show (u_spoilt pC p_0 p_1 p_2) = ((x108, (x110, x111))) from by simp only [u_spoilt, hb134, hL425, cond_true, cond_false, loopE_done, loopE_ret, pairE])
   rw [hM427]
   exact ⟨rfl, (by unfold okS; (try dsimp only); omega), (by (try dsimp only); first | omega | assumption | (simp only [wI] at *; omega)), hf127, hf129⟩
@[reducible] def Y0_21 (p_code : List Int) := (((((u_table p_code (0, 0)).1.Name) ++ ([46] : Str)) ++ ((u_of p_code ((u_table p_code (0, 0)).2) ([[105], [105], [105], [106], [109], [122]] : List Str)).1)) ++ ([47] : Str)) ++ ((u_of p_code ((u_of p_code ((u_table p_code (0, 0)).2) ([[105], [105], [105], [106], [109], [122]] : List Str)).2) ([[120], [121], [97, 98, 99]] : List Str)).1)
@[reducible] def Y1_21 (p_code : List Int) := ((Y0_21 p_code) ++ ([47] : Str)) ++ ((u_of p_code ((u_of p_code ((u_of p_code ((u_table p_code (0, 0)).2) ([[105], [105], [105], [106], [109], [122]] : List Str)).2) ([[120], [121], [97, 98, 99]] : List Str)).2) ([[49], [97], [122, 122]] : List Str)).1)
@[reducible] def Y2_21 (p_code : List Int) := (((u_table p_code (0, 0)).1.Name) ++ ([46] : Str)) ++ ((u_of p_code ((u_table p_code (0, 0)).2) ([[105], [105], [105], [106], [109], [122]] : List Str)).1)
theorem c_s_DrawReadIdxKey {A1 : Option Addr} {c1 : Nat} {w : World} (p_code : List Int) (h1 : RdS w (Iv 0 w.heap.size) (RF e_U8) 1 A1 p_code.length c1 p_code) (o2 : (okL okT) p_code) (pre0 : codeOk p_code) : Cal Tryz.prog 21 #[.slice A1 p_code.length c1] w fun v w' => ∃ A_1 c_1 lo_1 hi_1 A_2 c_2 lo_2 hi_2, v = .tuple #[.agg #[.string (bs ((s_DrawReadIdxKey p_code).1.Name)), .slice A_1 (((s_DrawReadIdxKey p_code).1.Cols).length) c_1, .slice A_2 (((s_DrawReadIdxKey p_code).1.Idxs).length) c_2], .string (bs ((s_DrawReadIdxKey p_code).2.1)), .string (bs ((s_DrawReadIdxKey p_code).2.2))] ∧ OwnL w' lo_1 hi_1 9 1 (RF e_Str) A_1 (((s_DrawReadIdxKey p_code).1.Cols).length) c_1 ((s_DrawReadIdxKey p_code).1.Cols) ∧ OwnL w' lo_2 hi_2 54 3 (RF e_Idx) A_2 (((s_DrawReadIdxKey p_code).1.Idxs).length) c_2 ((s_DrawReadIdxKey p_code).1.Idxs) ∧ ok_Table ((s_DrawReadIdxKey p_code).1) ∧ okS ((s_DrawReadIdxKey p_code).2.1) ∧ okS ((s_DrawReadIdxKey p_code).2.2) ∧ (w.heap.size ≤ lo_1 ∧ lo_1 ≤ hi_1 ∧ hi_1 ≤ w'.heap.size) ∧ (w.heap.size ≤ lo_2 ∧ lo_2 ≤ hi_2 ∧ hi_2 ≤ w'.heap.size) ∧ (hi_1 ≤ lo_2 ∨ hi_2 ≤ lo_1) ∧ Ex w w' := by
 have hol3 := o2.1
 refine Cal.of func21 rfl ntmps21 rfl (cR (sd rfl (yB ty26 (cs := [.string (bs (([] : Str))), .slice none 0 0, .slice none 0 0]) rfl rfl ?_)))
 intro b4 w5 hs6 hz7 hB8 hE9
 refine sA rfl (sA rfl (dn (cR (sM rfl (sd rfl (yl_build (cs := [.slice A1 p_code.length c1, .int .i64 (0), .int .u64 (0)]) rfl (oc rfl oz) (by kernel_rfl) (sd rfl (yl_box rfl rfl rfl ?_))))))))
 intro b10 w11 hs12 hz13 hB14 hE15
 refine sA rfl (dn (cR (sM rfl ?_)))
 have q17 := RdS.ex gU (RdS.ex gU h1 hE9) hE15
 refine sd rfl (yC en43 rfl (oc rfl oz) (Cal.mono (c_u_table p_code (0, 0) hB14 q17 oM oM o2 oM (by assumption)) ?_))
 rintro v25 w18 ⟨A19, c19, lo19, hi19, A20, c20, lo20, hi20, rfl, h19, h20, ho21, hp22, hp23, hp24, hB27, hrn28, hrn29, hrn30, hc26⟩
 have hc26z := Chg.size hc26
 have hB27z := Box.lt hB27
 have hrf31 := rf_table (c := p_code) (by assumption) (0, 0)
 refine sd rfl (yB ty26 (cs := [.string (bs (([] : Str))), .slice none 0 0, .slice none 0 0]) rfl rfl ?_)
 intro b32 w33 hs34 hz35 hB36 hE37
 refine SeqR.u rfl rfl (yl_store (vs := [.string (bs ((u_table p_code (0, 0)).1.Name)), .slice A19 (((u_table p_code (0, 0)).1.Cols).length) c19, .slice A20 (((u_table p_code (0, 0)).1.Idxs).length) c20]) ty26 rfl rfl rfl rfl rfl rfl hB36 (nb rfl) ?_)
 intro w38 hB39 hO40
 have hB39 : Box w38 b32 26 [.string (bs ((u_table p_code (0, 0)).1.Name)), .slice A19 (((u_table p_code (0, 0)).1.Cols).length) c19, .slice A20 (((u_table p_code (0, 0)).1.Idxs).length) c20] := hB39
 have hO40z := hO40.size
 refine dn (cR (sM rfl (sd rfl (yl_buildSlice (cs := [.string (bs (([105] : Str))), .string (bs (([105] : Str))), .string (bs (([105] : Str))), .string (bs (([106] : Str))), .string (bs (([109] : Str))), .string (bs (([122] : Str)))]) un23 ty9 (by decide) rfl (oc rfl (oc rfl (oc rfl (oc rfl (oc rfl (oc rfl oz)))))) (by kernel_rfl) ?_))))
 intro b41 w42 hs43 hz44 hB45 hE46
 have y2 := Ex.trans (Below.only (Ex.trans (Ex.chg (Ex.trans (Ex.trans (Ex.refl w) hE9) hE15) hc26 (fun k hk => by simp only [InR, or_false] at hk; omega)) hE37) hO40 oM) hE46
 have hO47 : OwnL w42 b41 (b41 + 1) 9 1 (RF e_Str) (some ⟨b41, 0, none⟩) 6 6 ([[105], [105], [105], [106], [109], [122]] : List Str) := OwnL.of_box (S := fun _ => False) hB45 (Nat.le_refl _) (Nat.lt_succ_self _) (EncL.cons (c := [.string (bs (([105] : Str)))]) rfl rfl (EncL.cons (c := [.string (bs (([105] : Str)))]) rfl rfl (EncL.cons (c := [.string (bs (([105] : Str)))]) rfl rfl (EncL.cons (c := [.string (bs (([106] : Str)))]) rfl rfl (EncL.cons (c := [.string (bs (([109] : Str)))]) rfl rfl (EncL.cons (c := [.string (bs (([122] : Str)))]) rfl rfl EncL.nil)))))) (nb rfl) (fun h => h) (fun _ h => False.elim h)
 have q54 := RdS.ex gU (RdS.only gU (RdS.ex gU (RdS.chg gU q17 hc26 Bi) hE37) hO40 (by simp only [Iv]; omega)) hE46
 have hle55 := OwnL.len hO47
 refine sd rfl (yC en33 rfl (oc rfl (oc rfl oz)) (Cal.mono (Cal.args (by rw [← hle55] <;> rfl) (c_u_of p_code ((u_table p_code (0, 0)).2) ([[105], [105], [105], [106], [109], [122]] : List Str) (Box.ex (Box.only (Box.ex hB27 hE37) hO40 oM) hE46) q54 oM oM (RdS.fix (OwnL.rdI gS hO47)) oM oM o2 (okL.mk (nb rfl) (okE.cons (okS.lit rfl) (okE.cons (okS.lit rfl) (okE.cons (okS.lit rfl) (okE.cons (okS.lit rfl) (okE.cons (okS.lit rfl) (okE.cons (okS.lit rfl) okE.nil))))))) (by first | omega | assumption | (simp only [wI] at *; omega) | (simp only [lN]; omega)) oM (by assumption))) ?_))
 rintro v59 w56 ⟨rfl, ho57, hp58, hB61, hc60⟩
 have hc60z := Chg.size hc60
 have hB61z := Box.lt hB61
 have hrf62 := of_len 1 p_code ((u_table p_code (0, 0)).2) ([[105], [105], [105], [106], [109], [122]] : List Str) (by decide)
 refine sA rfl (dn (CW.seq ?_))
 have q63 := Box.ex hB39 hE46
 have q64 := Box.chg q63 hc60 (Bx (Box.lt q63))
 have hol65 : ((u_table p_code (0, 0)).1.Name).length ≤ 1073741824 := ho21.1
 have hol66 : ((u_table p_code (0, 0)).1.Name).length ≤ 1073741824 := ho21.1
 have hol67 : ((u_of p_code ((u_table p_code (0, 0)).2) ([[105], [105], [105], [106], [109], [122]] : List Str)).1).length ≤ 1073741824 := ho57
 have hol68 : ((u_table p_code (0, 0)).1.Name).length ≤ 1073741824 := ho21.1
 have hol69 : ((u_of p_code ((u_table p_code (0, 0)).2) ([[105], [105], [105], [106], [109], [122]] : List Str)).1).length ≤ 1073741824 := ho57
 have q73 := RdS.chg gU q54 hc60 Bi
 have hol78 : ((u_table p_code (0, 0)).1.Name).length ≤ 1073741824 := ho21.1
 have hol79 : ((u_of p_code ((u_table p_code (0, 0)).2) ([[105], [105], [105], [106], [109], [122]] : List Str)).1).length ≤ 1073741824 := ho57
 have hol80 : ((u_table p_code (0, 0)).1.Name).length ≤ 1073741824 := ho21.1
 have hol81 : ((u_of p_code ((u_table p_code (0, 0)).2) ([[105], [105], [105], [106], [109], [122]] : List Str)).1).length ≤ 1073741824 := ho57
 have hol89 : ((u_table p_code (0, 0)).1.Name).length ≤ 1073741824 := ho21.1
 have hol90 : ((u_of p_code ((u_table p_code (0, 0)).2) ([[105], [105], [105], [106], [109], [122]] : List Str)).1).length ≤ 1073741824 := ho57
 have hrf91 := of_len 3 p_code ((u_of p_code ((u_table p_code (0, 0)).2) ([[105], [105], [105], [106], [109], [122]] : List Str)).2) ([[120], [121], [97, 98, 99]] : List Str) (by decide)
 have hrf92 := of_len 2 p_code ((u_of p_code ((u_of p_code ((u_table p_code (0, 0)).2) ([[105], [105], [105], [106], [109], [122]] : List Str)).2) ([[120], [121], [97, 98, 99]] : List Str)).2) ([[49], [97], [122, 122]] : List Str) (by decide)
 refine CW.drawsG 16 (fun G b => (G.dn 8 = true ∧ InR [(b10, b10 + 1)] b) ∨ (G.dn 13 = true ∧ InR [(b10, b10 + 1)] b)) (fun i G b => (i = 8 ∧ b10 ≤ b ∧ b < b10 + 1) ∨ (i = 13 ∧ b10 ≤ b ∧ b < b10 + 1)) (vgetG [DetG (.pointer (some ⟨b32, 0 + 0, none⟩)), DetG (.string (bs ((u_table p_code (0, 0)).1.Name))), DetG (.string (bs (((u_table p_code (0, 0)).1.Name) ++ ([46] : Str)))), DetG (.string (bs ((u_of p_code ((u_table p_code (0, 0)).2) ([[105], [105], [105], [106], [109], [122]] : List Str)).1))), DetG (.string (bs (Y2_21 p_code))), DetG (.string (bs ((Y2_21 p_code) ++ ([47] : Str)))), DetG (.pointer (some ⟨b10, 0, none⟩)), fun G v wq => ∃ A70, v = .slice A70 3 3 ∧ OwnL wq (G.fl 7) (G.fh 7) 9 1 (RF e_Str) A70 3 3 ([[120], [121], [97, 98, 99]] : List Str), fun G v wq => v = .string (bs ((u_of p_code ((u_of p_code ((u_table p_code (0, 0)).2) ([[105], [105], [105], [106], [109], [122]] : List Str)).2) ([[120], [121], [97, 98, 99]] : List Str)).1)) ∧ okS ((u_of p_code ((u_of p_code ((u_table p_code (0, 0)).2) ([[105], [105], [105], [106], [109], [122]] : List Str)).2) ([[120], [121], [97, 98, 99]] : List Str)).1) ∧ (((u_of p_code ((u_table p_code (0, 0)).2) ([[105], [105], [105], [106], [109], [122]] : List Str)).2).1 ≤ ((u_of p_code ((u_of p_code ((u_table p_code (0, 0)).2) ([[105], [105], [105], [106], [109], [122]] : List Str)).2) ([[120], [121], [97, 98, 99]] : List Str)).2).1 ∧ ((u_of p_code ((u_of p_code ((u_table p_code (0, 0)).2) ([[105], [105], [105], [106], [109], [122]] : List Str)).2) ([[120], [121], [97, 98, 99]] : List Str)).2).1 ≤ ((u_of p_code ((u_table p_code (0, 0)).2) ([[105], [105], [105], [106], [109], [122]] : List Str)).2).1 + 2) ∧ (G.dn 13 = false → Box wq b10 74 [.slice A1 p_code.length c1, .int .i64 (((u_of p_code ((u_of p_code ((u_table p_code (0, 0)).2) ([[105], [105], [105], [106], [109], [122]] : List Str)).2) ([[120], [121], [97, 98, 99]] : List Str)).2).1), .int .u64 (((u_of p_code ((u_of p_code ((u_table p_code (0, 0)).2) ([[105], [105], [105], [106], [109], [122]] : List Str)).2) ([[120], [121], [97, 98, 99]] : List Str)).2).2)]), DetG (.string (bs (Y0_21 p_code))), DetG (.string (bs ((Y0_21 p_code) ++ ([47] : Str)))), DetG (.pointer (some ⟨b10, 0, none⟩)), fun G v wq => ∃ A82, v = .slice A82 3 3 ∧ OwnL wq (G.fl 12) (G.fh 12) 9 1 (RF e_Str) A82 3 3 ([[49], [97], [122, 122]] : List Str), fun G v wq => v = .string (bs ((u_of p_code ((u_of p_code ((u_of p_code ((u_table p_code (0, 0)).2) ([[105], [105], [105], [106], [109], [122]] : List Str)).2) ([[120], [121], [97, 98, 99]] : List Str)).2) ([[49], [97], [122, 122]] : List Str)).1)) ∧ okS ((u_of p_code ((u_of p_code ((u_of p_code ((u_table p_code (0, 0)).2) ([[105], [105], [105], [106], [109], [122]] : List Str)).2) ([[120], [121], [97, 98, 99]] : List Str)).2) ([[49], [97], [122, 122]] : List Str)).1) ∧ (((u_of p_code ((u_of p_code ((u_table p_code (0, 0)).2) ([[105], [105], [105], [106], [109], [122]] : List Str)).2) ([[120], [121], [97, 98, 99]] : List Str)).2).1 ≤ ((u_of p_code ((u_of p_code ((u_of p_code ((u_table p_code (0, 0)).2) ([[105], [105], [105], [106], [109], [122]] : List Str)).2) ([[120], [121], [97, 98, 99]] : List Str)).2) ([[49], [97], [122, 122]] : List Str)).2).1 ∧ ((u_of p_code ((u_of p_code ((u_of p_code ((u_table p_code (0, 0)).2) ([[105], [105], [105], [106], [109], [122]] : List Str)).2) ([[120], [121], [97, 98, 99]] : List Str)).2) ([[49], [97], [122, 122]] : List Str)).2).1 ≤ ((u_of p_code ((u_of p_code ((u_table p_code (0, 0)).2) ([[105], [105], [105], [106], [109], [122]] : List Str)).2) ([[120], [121], [97, 98, 99]] : List Str)).2).1 + 2) ∧ Box wq b10 74 [.slice A1 p_code.length c1, .int .i64 (((u_of p_code ((u_of p_code ((u_of p_code ((u_table p_code (0, 0)).2) ([[105], [105], [105], [106], [109], [122]] : List Str)).2) ([[120], [121], [97, 98, 99]] : List Str)).2) ([[49], [97], [122, 122]] : List Str)).2).1), .int .u64 (((u_of p_code ((u_of p_code ((u_of p_code ((u_table p_code (0, 0)).2) ([[105], [105], [105], [106], [109], [122]] : List Str)).2) ([[120], [121], [97, 98, 99]] : List Str)).2) ([[49], [97], [122, 122]] : List Str)).2).2)], DetG (.string (bs (Y1_21 p_code))), DetG (.string (bs (Y1_21 p_code)))]) Tryz.follows rfl rfl rfl rfl rfl rfl (fun _ _ _ _ _ h => (fun h => h.imp (fun h => ⟨Gh.udn h.1, h.2⟩) (fun h => ⟨Gh.udn h.1, h.2⟩)) h) (fun i G w lo hi b K hn hh hp => by exact (hp.elim (fun ⟨e, q1, q2⟩ => by subst e; exact .inl (.inl ⟨Gh.sdn, .inl ⟨q1, q2⟩⟩)) (fun hp => (match hp with | ⟨e, q1, q2⟩ => by subst e; exact .inl (.inr (⟨Gh.sdn, .inl ⟨q1, q2⟩⟩)))))) (vgetG_kept ⟨(KeptG.det _), (KeptG.det _), (KeptG.det _), (KeptG.det _), (KeptG.det _), (KeptG.det _), (KeptG.det _), (by rintro i G v w w' K hn hh hj ⟨A70, hv, h0⟩ e; have d7 : G.dn 7 = true := hj; have u7 := Gh.ufl (lo := w.heap.size) (hi := w'.heap.size) d7 hn; have t7 := Gh.ufh (lo := w.heap.size) (hi := w'.heap.size) d7 hn; exact ⟨A70, hv, (by simp only [u7, t7]; exact OwnL.chg gS h0 e (fun b hb hp => by exact (hp.elim (fun ⟨e, q1, q2⟩ => by subst e; have := K.rng 7 d7; skip; omega) (fun hp => (match hp with | ⟨e, q1, q2⟩ => by subst e; have := K.rng 7 d7; skip; omega)))))⟩), (by rintro i G v w w' K hn hh hj ⟨hv, h0, h1, h2⟩ e; exact ⟨hv, h0, h1, (by intro hd; exact Box.chg (h2 (Gh.off hd).2) e (fun hp => by exact (hp.elim (fun ⟨e, q1, q2⟩ => by subst e; rw [hj] at hn; cases hn) (fun hp => (match hp with | ⟨e, q1, q2⟩ => by subst e; exact absurd rfl (Gh.off hd).1)))))⟩), (KeptG.det _), (KeptG.det _), (KeptG.det _), (by rintro i G v w w' K hn hh hj ⟨A82, hv, h0⟩ e; have d12 : G.dn 12 = true := hj; have u12 := Gh.ufl (lo := w.heap.size) (hi := w'.heap.size) d12 hn; have t12 := Gh.ufh (lo := w.heap.size) (hi := w'.heap.size) d12 hn; exact ⟨A82, hv, (by simp only [u12, t12]; exact OwnL.chg gS h0 e (fun b hb hp => by exact (hp.elim (fun ⟨e, q1, q2⟩ => by subst e; have := K.rng 12 d12; skip; omega) (fun hp => (match hp with | ⟨e, q1, q2⟩ => by subst e; have := K.rng 12 d12; skip; omega)))))⟩), (by rintro i G v w w' K hn hh hj ⟨hv, h0, h1, h2⟩ e; exact ⟨hv, h0, h1, (by exact Box.chg h2 e (fun hp => by exact (hp.elim (fun ⟨e, q1, q2⟩ => by subst e; rw [K.cl 13 8 hj rfl] at hn; cases hn) (fun hp => (match hp with | ⟨e, q1, q2⟩ => by subst e; rw [hj] at hn; cases hn)))))⟩), (KeptG.det _), (KeptG.det _), trivial⟩) ⟨?_, ?_, ?_, ?_, ?_, ?_, ?_, ?_, ?_, ?_, ?_, ?_, ?_, ?_, ?_, ?_, trivial⟩ ?_
 ·intro L94 w95 G93 hgk96
  have hE97 : Chg (fun b => InR [(b10, b10 + 1)] b ∨ w56.heap.size ≤ b) w56 w95 := hgk96.st.ex.imp (fun b _ h => h.imp (fun h => h.elim (fun h => h.2) (fun h => h.2)) (fun h => h))
  have hE97z := Chg.size hE97
  exact OpR.op' rfl (Yl.sameG (yl_fieldAddr fd26_0 rfl (hgk96.old 6 _ rfl rfl) kI))
 ·intro L100 w101 G99 hgk102
  have hE103 : Chg (fun b => InR [(b10, b10 + 1)] b ∨ w56.heap.size ≤ b) w56 w101 := hgk102.st.ex.imp (fun b _ h => h.imp (fun h => h.elim (fun h => h.2) (fun h => h.2)) (fun h => h))
  have hE103z := Chg.size hE103
  obtain ⟨_, hx104, rfl⟩ := hgk102.val 0 17 rfl rfl
  exact OpR.op' rfl (Yl.sameG (yl_load1 ty9 rfl hx104 (((Box.chg q64 hE103 (Bx (Box.lt q64))).cell 0).trans rfl) kI))
 ·intro L107 w108 G106 hgk109
  have hE110 : Chg (fun b => InR [(b10, b10 + 1)] b ∨ w56.heap.size ≤ b) w56 w108 := hgk109.st.ex.imp (fun b _ h => h.imp (fun h => h.elim (fun h => h.2) (fun h => h.2)) (fun h => h))
  have hE110z := Chg.size hE110
  obtain ⟨_, hx111, rfl⟩ := hgk109.val 1 18 rfl rfl
  have hol112 : ((u_table p_code (0, 0)).1.Name).length ≤ 1073741824 := ho21.1
  exact OpR.op' rfl (Yl.sameG (yl_sadd (a := ((u_table p_code (0, 0)).1.Name)) (b := ([46] : Str)) rfl hx111 rfl Bl kI))
 ·intro L114 w115 G113 hgk116
  have hE117 : Chg (fun b => InR [(b10, b10 + 1)] b ∨ w56.heap.size ≤ b) w56 w115 := hgk116.st.ex.imp (fun b _ h => h.imp (fun h => h.elim (fun h => h.2) (fun h => h.2)) (fun h => h))
  have hE117z := Chg.size hE117
  exact OpR.op' rfl (Yl.sameG (yM rfl (hgk116.old 7 _ rfl rfl) kI))
 ·intro L120 w121 G119 hgk122
  have hE123 : Chg (fun b => InR [(b10, b10 + 1)] b ∨ w56.heap.size ≤ b) w56 w121 := hgk122.st.ex.imp (fun b _ h => h.imp (fun h => h.elim (fun h => h.2) (fun h => h.2)) (fun h => h))
  have hE123z := Chg.size hE123
  obtain ⟨_, hx124, rfl⟩ := hgk122.val 2 19 rfl rfl
  obtain ⟨_, hx125, rfl⟩ := hgk122.val 3 20 rfl rfl
  have hol126 : ((u_table p_code (0, 0)).1.Name).length ≤ 1073741824 := ho21.1
  have hol127 : ((u_of p_code ((u_table p_code (0, 0)).2) ([[105], [105], [105], [106], [109], [122]] : List Str)).1).length ≤ 1073741824 := ho57
  exact OpR.op' rfl (Yl.sameG (yl_sadd (a := (((u_table p_code (0, 0)).1.Name) ++ ([46] : Str))) (b := ((u_of p_code ((u_table p_code (0, 0)).2) ([[105], [105], [105], [106], [109], [122]] : List Str)).1)) rfl hx124 hx125 Bl kI))
 ·intro L129 w130 G128 hgk131
  have hE132 : Chg (fun b => InR [(b10, b10 + 1)] b ∨ w56.heap.size ≤ b) w56 w130 := hgk131.st.ex.imp (fun b _ h => h.imp (fun h => h.elim (fun h => h.2) (fun h => h.2)) (fun h => h))
  have hE132z := Chg.size hE132
  obtain ⟨_, hx133, rfl⟩ := hgk131.val 4 21 rfl rfl
  have hol134 : ((u_table p_code (0, 0)).1.Name).length ≤ 1073741824 := ho21.1
  have hol135 : ((u_of p_code ((u_table p_code (0, 0)).2) ([[105], [105], [105], [106], [109], [122]] : List Str)).1).length ≤ 1073741824 := ho57
  exact OpR.op' rfl (Yl.sameG (yl_sadd (a := (Y2_21 p_code)) (b := ([47] : Str)) rfl hx133 rfl Bl kI))
 ·intro L137 w138 G136 hgk139
  have hE140 := hgk139.st.ex.ex (fun b h => h.elim (fun h => h.elim (fun h => hgk139.no rfl h) (fun h => hgk139.no rfl h)) (fun h => h))
  have hE140z := Ex.size hE140
  exact OpR.op' rfl (Yl.sameG (yM rfl (hgk139.old 5 _ rfl rfl) kI))
 ·intro L143 w144 G142 hgk145
  have hE146 := hgk145.st.ex.ex (fun b h => h.elim (fun h => h.elim (fun h => hgk145.no rfl h) (fun h => hgk145.no rfl h)) (fun h => h))
  have hE146z := Ex.size hE146
  refine OpR.op' rfl (yl_buildSlice (cs := [.string (bs (([120] : Str))), .string (bs (([121] : Str))), .string (bs (([97, 98, 99] : Str)))]) un23 ty9 (by decide) rfl (oc rfl (oc rfl (oc rfl oz))) (by kernel_rfl) ?_)
  intro b147 w148 hs149 hz150 hB151 hE152
  have hO153 : OwnL w148 b147 (b147 + 1) 9 1 (RF e_Str) (some ⟨b147, 0, none⟩) 3 3 ([[120], [121], [97, 98, 99]] : List Str) := OwnL.of_box (S := fun _ => False) hB151 (Nat.le_refl _) (Nat.lt_succ_self _) (EncL.cons (c := [.string (bs (([120] : Str)))]) rfl rfl (EncL.cons (c := [.string (bs (([121] : Str)))]) rfl rfl (EncL.cons (c := [.string (bs (([97, 98, 99] : Str)))]) rfl rfl EncL.nil))) (nb rfl) (fun h => h) (fun _ h => False.elim h)
  exact ⟨Chg.of_ex hE152, (some ⟨b147, 0, none⟩), rfl, OwnL.more (lo' := w144.heap.size) (hi' := w148.heap.size) hO153 oM oM⟩
 ·intro L155 w156 G154 hgk157
  have hE158 := hgk157.st.ex.ex (fun b h => h.elim (fun h => h.elim (fun h => hgk157.nw h) (fun h => hgk157.no rfl h)) (fun h => h))
  have hE158z := Ex.size hE158
  obtain ⟨_, hx159, rfl⟩ := hgk157.val 6 23 rfl rfl
  obtain ⟨_, hx160, A70_161, rfl, h162⟩ := hgk157.val 7 24 rfl rfl
  have hr163 := hgk157.st.rng 7 (hgk157.has 7 rfl)
  have hle166 := OwnL.len h162
  refine OpR.op' rfl (yC en33 rfl (oc hx159 (oc hx160 oz)) (Cal.mono (Cal.args (by rw [← hle166] <;> rfl) (c_u_of p_code ((u_of p_code ((u_table p_code (0, 0)).2) ([[105], [105], [105], [106], [109], [122]] : List Str)).2) ([[120], [121], [97, 98, 99]] : List Str) (Box.ex hB61 hE158) (RdS.ex gU q73 hE158) oM oM (RdS.fix (OwnL.rdI gS h162)) oM oM o2 (okL.mk (nb rfl) (okE.cons (okS.lit rfl) (okE.cons (okS.lit rfl) (okE.cons (okS.lit rfl) okE.nil)))) (by first | omega | assumption | (simp only [wI] at *; omega) | (simp only [lN]; omega)) oM (by assumption))) ?_))
  rintro v170 w167 ⟨rfl, ho168, hp169, hB172, hE171⟩
  exact ⟨hE171.imp (fun k _ hk => hk.elim (fun hk => (.inl ⟨rfl, hk.1, hk.2⟩)) False.elim), rfl, ho168, hp169, fun _ => hB172⟩
 ·intro L174 w175 G173 hgk176
  have hE177 : Chg (fun b => InR [(b10, b10 + 1)] b ∨ w56.heap.size ≤ b) w56 w175 := hgk176.st.ex.imp (fun b _ h => h.imp (fun h => h.elim (fun h => h.2) (fun h => h.2)) (fun h => h))
  have hE177z := Chg.size hE177
  obtain ⟨_, hx178, rfl⟩ := hgk176.val 5 22 rfl rfl
  obtain ⟨_, hx179, rfl, h180, h181, -⟩ := hgk176.val 8 25 rfl rfl
  have hr182 := hgk176.st.rng 8 (hgk176.has 8 rfl)
  have hol183 : ((u_table p_code (0, 0)).1.Name).length ≤ 1073741824 := ho21.1
  have hol184 : ((u_of p_code ((u_table p_code (0, 0)).2) ([[105], [105], [105], [106], [109], [122]] : List Str)).1).length ≤ 1073741824 := ho57
  have hol185 : ((u_of p_code ((u_of p_code ((u_table p_code (0, 0)).2) ([[105], [105], [105], [106], [109], [122]] : List Str)).2) ([[120], [121], [97, 98, 99]] : List Str)).1).length ≤ 1073741824 := h180
  exact OpR.op' rfl (Yl.sameG (yl_sadd (a := ((Y2_21 p_code) ++ ([47] : Str))) (b := ((u_of p_code ((u_of p_code ((u_table p_code (0, 0)).2) ([[105], [105], [105], [106], [109], [122]] : List Str)).2) ([[120], [121], [97, 98, 99]] : List Str)).1)) rfl hx178 hx179 Bl kI))
 ·intro L187 w188 G186 hgk189
  have hE190 : Chg (fun b => InR [(b10, b10 + 1)] b ∨ w56.heap.size ≤ b) w56 w188 := hgk189.st.ex.imp (fun b _ h => h.imp (fun h => h.elim (fun h => h.2) (fun h => h.2)) (fun h => h))
  have hE190z := Chg.size hE190
  obtain ⟨_, hx191, rfl⟩ := hgk189.val 9 26 rfl rfl
  have hol192 : ((u_table p_code (0, 0)).1.Name).length ≤ 1073741824 := ho21.1
  have hol193 : ((u_of p_code ((u_table p_code (0, 0)).2) ([[105], [105], [105], [106], [109], [122]] : List Str)).1).length ≤ 1073741824 := ho57
  exact OpR.op' rfl (Yl.sameG (yl_sadd (a := (Y0_21 p_code)) (b := ([47] : Str)) rfl hx191 rfl Bl kI))
 ·intro L195 w196 G194 hgk197
  have hE198 : Chg (fun b => InR [(b10, b10 + 1)] b ∨ w56.heap.size ≤ b) w56 w196 := hgk197.st.ex.imp (fun b _ h => h.imp (fun h => h.elim (fun h => h.2) (fun h => hgk197.no rfl h)) (fun h => h))
  have hE198z := Chg.size hE198
  exact OpR.op' rfl (Yl.sameG (yM rfl (hgk197.old 5 _ rfl rfl) kI))
 ·intro L201 w202 G200 hgk203
  have hE204 : Chg (fun b => InR [(b10, b10 + 1)] b ∨ w56.heap.size ≤ b) w56 w202 := hgk203.st.ex.imp (fun b _ h => h.imp (fun h => h.elim (fun h => h.2) (fun h => hgk203.no rfl h)) (fun h => h))
  have hE204z := Chg.size hE204
  refine OpR.op' rfl (yl_buildSlice (cs := [.string (bs (([49] : Str))), .string (bs (([97] : Str))), .string (bs (([122, 122] : Str)))]) un23 ty9 (by decide) rfl (oc rfl (oc rfl (oc rfl oz))) (by kernel_rfl) ?_)
  intro b205 w206 hs207 hz208 hB209 hE210
  have hO211 : OwnL w206 b205 (b205 + 1) 9 1 (RF e_Str) (some ⟨b205, 0, none⟩) 3 3 ([[49], [97], [122, 122]] : List Str) := OwnL.of_box (S := fun _ => False) hB209 (Nat.le_refl _) (Nat.lt_succ_self _) (EncL.cons (c := [.string (bs (([49] : Str)))]) rfl rfl (EncL.cons (c := [.string (bs (([97] : Str)))]) rfl rfl (EncL.cons (c := [.string (bs (([122, 122] : Str)))]) rfl rfl EncL.nil))) (nb rfl) (fun h => h) (fun _ h => False.elim h)
  exact ⟨Chg.of_ex hE210, (some ⟨b205, 0, none⟩), rfl, OwnL.more (lo' := w202.heap.size) (hi' := w206.heap.size) hO211 oM oM⟩
 ·intro L213 w214 G212 hgk215
  have hE216 : Chg (fun b => InR [(b10, b10 + 1)] b ∨ w56.heap.size ≤ b) w56 w214 := hgk215.st.ex.imp (fun b _ h => h.imp (fun h => h.elim (fun h => h.2) (fun h => hgk215.nw h)) (fun h => h))
  have hE216z := Chg.size hE216
  obtain ⟨_, hx217, rfl⟩ := hgk215.val 11 28 rfl rfl
  obtain ⟨_, rfl, h218, h219, h220⟩ := hgk215.fact 8 rfl
  have h220 := h220 hgk215.new
  obtain ⟨_, hx221, A82_222, rfl, h223⟩ := hgk215.val 12 29 rfl rfl
  have hr224 := hgk215.st.rng 8 (hgk215.has 8 rfl)
  have hr225 := hgk215.st.rng 12 (hgk215.has 12 rfl)
  have hsp226 := hgk215.st.sep 8 12 (hgk215.has 8 rfl) (hgk215.has 12 rfl) rfl
  have hle228 := OwnL.len h223
  refine OpR.op' rfl (yC en33 rfl (oc hx217 (oc hx221 oz)) (Cal.mono (Cal.args (by rw [← hle228] <;> rfl) (c_u_of p_code ((u_of p_code ((u_of p_code ((u_table p_code (0, 0)).2) ([[105], [105], [105], [106], [109], [122]] : List Str)).2) ([[120], [121], [97, 98, 99]] : List Str)).2) ([[49], [97], [122, 122]] : List Str) h220 (RdS.chg gU q73 hE216 Bi) oM oM (RdS.fix (OwnL.rdI gS h223)) oM oM o2 (okL.mk (nb rfl) (okE.cons (okS.lit rfl) (okE.cons (okS.lit rfl) (okE.cons (okS.lit rfl) okE.nil)))) (by first | omega | assumption | (simp only [wI] at *; omega) | (simp only [lN]; omega)) oM (by assumption))) ?_))
  rintro v232 w229 ⟨rfl, ho230, hp231, hB234, hE233⟩
  exact ⟨hE233.imp (fun k _ hk => hk.elim (fun hk => (.inr (⟨rfl, hk.1, hk.2⟩))) False.elim), rfl, ho230, hp231, hB234⟩
 ·intro L236 w237 G235 hgk238
  have hE239 : Chg (fun b => InR [(b10, b10 + 1)] b ∨ w56.heap.size ≤ b) w56 w237 := hgk238.st.ex.imp (fun b _ h => h.imp (fun h => h.elim (fun h => h.2) (fun h => h.2)) (fun h => h))
  have hE239z := Chg.size hE239
  obtain ⟨_, hx240, rfl⟩ := hgk238.val 10 27 rfl rfl
  obtain ⟨_, hx241, rfl, h242, h243, h244⟩ := hgk238.val 13 30 rfl rfl
  have hr245 := hgk238.st.rng 13 (hgk238.has 13 rfl)
  have hol246 : ((u_table p_code (0, 0)).1.Name).length ≤ 1073741824 := ho21.1
  have hol247 : ((u_of p_code ((u_table p_code (0, 0)).2) ([[105], [105], [105], [106], [109], [122]] : List Str)).1).length ≤ 1073741824 := ho57
  have hol248 : ((u_of p_code ((u_of p_code ((u_of p_code ((u_table p_code (0, 0)).2) ([[105], [105], [105], [106], [109], [122]] : List Str)).2) ([[120], [121], [97, 98, 99]] : List Str)).2) ([[49], [97], [122, 122]] : List Str)).1).length ≤ 1073741824 := h242
  exact OpR.op' rfl (Yl.sameG (yl_sadd (a := ((Y0_21 p_code) ++ ([47] : Str))) (b := ((u_of p_code ((u_of p_code ((u_of p_code ((u_table p_code (0, 0)).2) ([[105], [105], [105], [106], [109], [122]] : List Str)).2) ([[120], [121], [97, 98, 99]] : List Str)).2) ([[49], [97], [122, 122]] : List Str)).1)) rfl hx240 hx241 Bl kI))
 ·intro L250 w251 G249 hgk252
  have hE253 : Chg (fun b => InR [(b10, b10 + 1)] b ∨ w56.heap.size ≤ b) w56 w251 := hgk252.st.ex.imp (fun b _ h => h.imp (fun h => h.elim (fun h => h.2) (fun h => h.2)) (fun h => h))
  have hE253z := Chg.size hE253
  obtain ⟨_, hx254, rfl⟩ := hgk252.val 14 31 rfl rfl
  exact OpR.op' rfl (Yl.sameG (yA rfl hx254 kI))
 ·intro G255 L256 w257 hgp258
  have hE259 : Chg (fun b => InR [(b10, b10 + 1)] b ∨ w56.heap.size ≤ b) w56 w257 := hgp258.st.ex.imp (fun b _ h => h.imp (fun h => h.elim (fun h => h.2) (fun h => h.2)) (fun h => h))
  have hE259z := Chg.size hE259
  obtain ⟨_, hx264, A70_265, rfl, h266⟩ := hgp258.val 7 24 rfl rfl
  obtain ⟨_, hx267, rfl, h268, h269, -⟩ := hgp258.val 8 25 rfl rfl
  obtain ⟨_, hx270, A82_271, rfl, h272⟩ := hgp258.val 12 29 rfl rfl
  obtain ⟨_, hx273, rfl, h274, h275, h276⟩ := hgp258.val 13 30 rfl rfl
  obtain ⟨_, hx277, rfl⟩ := hgp258.val 15 8 rfl rfl
  have hbz278 := Box.lt h276
  have hr279 := hgp258.st.rng 7 (hgp258.has 7 rfl)
  have hr280 := hgp258.st.rng 8 (hgp258.has 8 rfl)
  have hr281 := hgp258.st.rng 12 (hgp258.has 12 rfl)
  have hr282 := hgp258.st.rng 13 (hgp258.has 13 rfl)
  have hsp283 := hgp258.st.ord 8 7 (hgp258.has 8 rfl) rfl
  have hsp284 := hgp258.st.sep 7 12 (hgp258.has 7 rfl) (hgp258.has 12 rfl) rfl
  have hsp285 := hgp258.st.ord 13 7 (hgp258.has 13 rfl) rfl
  have hsp286 := hgp258.st.sep 8 12 (hgp258.has 8 rfl) (hgp258.has 12 rfl) rfl
  have hsp287 := hgp258.st.ord 13 8 (hgp258.has 13 rfl) rfl
  have hsp288 := hgp258.st.ord 13 12 (hgp258.has 13 rfl) rfl
  refine dn (CW.sub (sC 2 (hgp258.old 2 _ rfl rfl) (sC 5 (hgp258.old 5 _ rfl rfl) (sC 6 (hgp258.old 6 _ rfl rfl) (sC 7 (hgp258.old 7 _ rfl rfl) (sC 8 hx277 (Sub.nil _)))))) (CW.seq (cR (sM rfl ?_))))
  have q289 := RdS.chg gU q73 hE259 Bi
  refine sd rfl (yC en44 rfl (oc rfl (oc rfl oz)) (Cal.mono (c_u_one p_code ((u_of p_code ((u_of p_code ((u_of p_code ((u_table p_code (0, 0)).2) ([[105], [105], [105], [106], [109], [122]] : List Str)).2) ([[120], [121], [97, 98, 99]] : List Str)).2) ([[49], [97], [122, 122]] : List Str)).2) 3 h276 q289 oM oM o2 oM (by assumption)) ?_))
  rintro v292 w290 ⟨rfl, hp291, hB294, hc293⟩
  have hc293z := Chg.size hc293
  have hB294z := Box.lt hB294
  have y1 := OwnL.chg gI (OwnL.chg gI (OwnL.chg gI (OwnL.ex gI (OwnL.only gI (OwnL.ex gI h20 hE37) hO40 oM) hE46) hc60 Bk) hE259 Bk) hc293 Bk
  have y0 := OwnL.chg gS (OwnL.chg gS (OwnL.chg gS (OwnL.ex gS (OwnL.only gS (OwnL.ex gS h19 hE37) hO40 oM) hE46) hc60 Bk) hE259 Bk) hc293 Bk
  refine dn (bcase ((u_one p_code ((u_of p_code ((u_of p_code ((u_of p_code ((u_table p_code (0, 0)).2) ([[105], [105], [105], [106], [109], [122]] : List Str)).2) ([[120], [121], [97, 98, 99]] : List Str)).2) ([[49], [97], [122, 122]] : List Str)).2) 3).1) (fun hb295 => ?_) (fun hb295 => ?_))
  ·refine CW.cond_t rfl hb295 (CW.region (sM rfl (sM rfl (sd rfl (yC en45 rfl (oc rfl (oc rfl (oc rfl oz))) (Cal.mono (c_u_spoilt p_code ((u_one p_code ((u_of p_code ((u_of p_code ((u_of p_code ((u_table p_code (0, 0)).2) ([[105], [105], [105], [106], [109], [122]] : List Str)).2) ([[120], [121], [97, 98, 99]] : List Str)).2) ([[49], [97], [122, 122]] : List Str)).2) 3).2) (Y1_21 p_code) ([97, 47, 46, 49, 105] : Str) hB294 (RdS.chg gU q289 hc293 Bi) oM oM o2 (by unfold okS; simp only [lN]; omega) (okS.lit rfl) (by first | omega | assumption | (simp only [wI] at *; omega) | (simp only [lN]; omega)) (by first | omega | assumption | (simp only [wI] at *; omega) | (simp only [lN]; omega)) oM (by assumption)) ?_))))))
   rintro v300 w297 ⟨rfl, ho298, hp299, hB302, hc301⟩
   have hc301z := Chg.size hc301
   have hB302z := Box.lt hB302
   refine sA rfl (dn (cR ?_))
   have q303 := Box.chg q64 hE259 (Bx (Box.lt q64))
   have q304 := Box.chg q303 hc293 (Bx (Box.lt q303))
   refine sd rfl (yl_loadN ty26 rfl rfl ((Box.chg q304 hc301 (Bx (Box.lt q304))).cells (n := 3) rfl) rfl (sM rfl (sM rfl ?_)))
   have q306 := Box.ex hB8 hE15
   have q310 := Box.ex (Box.only (Box.ex (Box.chg q306 hc26 (Bx (Box.lt q306))) hE37) hO40 oM) hE46
   have q311 := Box.chg q310 hc60 (Bx (Box.lt q310))
   have q312 := Box.chg q311 hE259 (Bx (Box.lt q311))
   have q313 := Box.chg q312 hc293 (Bx (Box.lt q312))
   refine SeqR.u rfl rfl (yl_store (vs := [.string (bs ((u_table p_code (0, 0)).1.Name)), .slice A19 (((u_table p_code (0, 0)).1.Cols).length) c19, .slice A20 (((u_table p_code (0, 0)).1.Idxs).length) c20]) ty26 rfl rfl rfl rfl rfl rfl (Box.chg q313 hc301 (Bx (Box.lt q313))) (nb rfl) ?_)
   intro w315 hB316 hO317
   have hB316 : Box w315 b4 26 [.string (bs ((u_table p_code (0, 0)).1.Name)), .slice A19 (((u_table p_code (0, 0)).1.Cols).length) c19, .slice A20 (((u_table p_code (0, 0)).1.Idxs).length) c20] := hB316
   have hO317z := hO317.size
   refine sA rfl (sA rfl (dn (CW.ret (rr rfl (.cons ⟨_, rfl, run_loadN ty26 (cs := [.string (bs ((u_table p_code (0, 0)).1.Name)), .slice A19 (((u_table p_code (0, 0)).1.Cols).length) c19, .slice A20 (((u_table p_code (0, 0)).1.Idxs).length) c20]) rfl (hB316.cells (n := 3) rfl)⟩ (.cons rfl (.cons rfl .nil))) ?_))))
   have hM318 : (s_DrawReadIdxKey p_code) = (((u_table p_code (0, 0)).1, (u_of p_code ((u_table p_code (0, 0)).2) ([[105], [105], [105], [106], [109], [122]] : List Str)).1, (u_spoilt p_code ((u_one p_code ((u_of p_code ((u_of p_code ((u_of p_code ((u_table p_code (0, 0)).2) ([[105], [105], [105], [106], [109], [122]] : List Str)).2) ([[120], [121], [97, 98, 99]] : List Str)).2) ([[49], [97], [122, 122]] : List Str)).2) 3).2) (Y1_21 p_code) ([97, 47, 46, 49, 105] : Str)).1)) := by simp only [s_DrawReadIdxKey, hb295, cL]
   have q325 := OwnL.chg gS y0 hc301 Bk
   have q333 := OwnL.chg gI y1 hc301 Bk
   rw [hM318]
   have q344 := Ex.chg (Ex.chg (Ex.chg (Ex.chg y2 hc60 (fun k hk => by simp only [InR, or_false] at hk; omega)) hE259 (fun k hk => by simp only [InR, or_false] at hk; omega)) hc293 (fun k hk => by simp only [InR, or_false] at hk; omega)) hc301 (fun k hk => by simp only [InR, or_false] at hk; omega)
   exact ⟨A19, c19, lo19, hi19, A20, c20, lo20, hi20, rfl, (OwnL.only gS q325 hO317 oM), (OwnL.only gI q333 hO317 oM), ho21, ho57, ho298, oM, oM, oM, (Below.only q344 hO317 oM)⟩
  ·refine CW.cond_f rfl hb295 (CW.skip (tn (cR ?_)))
   have q346 := Box.chg q64 hE259 (Bx (Box.lt q64))
   refine sd rfl (yl_loadN ty26 rfl rfl ((Box.chg q346 hc293 (Bx (Box.lt q346))).cells (n := 3) rfl) rfl (sM rfl (sM rfl ?_)))
   have q348 := Box.ex hB8 hE15
   have q352 := Box.ex (Box.only (Box.ex (Box.chg q348 hc26 (Bx (Box.lt q348))) hE37) hO40 oM) hE46
   have q353 := Box.chg q352 hc60 (Bx (Box.lt q352))
   have q354 := Box.chg q353 hE259 (Bx (Box.lt q353))
   refine SeqR.u rfl rfl (yl_store (vs := [.string (bs ((u_table p_code (0, 0)).1.Name)), .slice A19 (((u_table p_code (0, 0)).1.Cols).length) c19, .slice A20 (((u_table p_code (0, 0)).1.Idxs).length) c20]) ty26 rfl rfl rfl rfl rfl rfl (Box.chg q354 hc293 (Bx (Box.lt q354))) (nb rfl) ?_)
   intro w356 hB357 hO358
   have hB357 : Box w356 b4 26 [.string (bs ((u_table p_code (0, 0)).1.Name)), .slice A19 (((u_table p_code (0, 0)).1.Cols).length) c19, .slice A20 (((u_table p_code (0, 0)).1.Idxs).length) c20] := hB357
   have hO358z := hO358.size
   refine sA rfl (sA rfl (dn (CW.ret (rr rfl (.cons ⟨_, rfl, run_loadN ty26 (cs := [.string (bs ((u_table p_code (0, 0)).1.Name)), .slice A19 (((u_table p_code (0, 0)).1.Cols).length) c19, .slice A20 (((u_table p_code (0, 0)).1.Idxs).length) c20]) rfl (hB357.cells (n := 3) rfl)⟩ (.cons rfl (.cons rfl .nil))) ?_))))
   have hM359 : (s_DrawReadIdxKey p_code) = (((u_table p_code (0, 0)).1, (u_of p_code ((u_table p_code (0, 0)).2) ([[105], [105], [105], [106], [109], [122]] : List Str)).1, ((Y0_21 p_code) ++ ([47] : Str)) ++ ((u_of p_code ((u_of p_code ((u_of p_code ((u_table p_code (0, 0)).2) ([[105], [105], [105], [106], [109], [122]] : List Str)).2) ([[120], [121], [97, 98, 99]] : List Str)).2) ([[49], [97], [122, 122]] : List Str)).1))) := by simp only [s_DrawReadIdxKey, hb295, cL]
   rw [hM359]
   have q383 := Below.only (Ex.chg (Ex.chg (Ex.chg y2 hc60 (fun k hk => by simp only [InR, or_false] at hk; omega)) hE259 (fun k hk => by simp only [InR, or_false] at hk; omega)) hc293 (fun k hk => by simp only [InR, or_false] at hk; omega)) hO358 oM
   exact ⟨A19, c19, lo19, hi19, A20, c20, lo20, hi20, rfl, (OwnL.only gS y0 hO358 oM), (OwnL.only gI y1 hO358 oM), ho21, ho57, (by unfold okS; simp only [lN]; omega), oM, oM, oM, q383⟩
theorem c_s_DrawClearOps {A1 : Option Addr} {c1 : Nat} {w : World} (p_code : List Int) (h1 : RdS w (Iv 0 w.heap.size) (RF e_U8) 1 A1 p_code.length c1 p_code) (o2 : (okL okT) p_code) (pre0 : codeOk p_code) : Cal Tryz.prog 7 #[.slice A1 p_code.length c1] w fun v w' => ∃ A_1 c_1 lo_1 hi_1 A_2 c_2 lo_2 hi_2, v = .tuple #[.agg #[.string (bs ((s_DrawClearOps p_code).1.Name)), .slice A_1 (((s_DrawClearOps p_code).1.Cols).length) c_1, .slice A_2 (((s_DrawClearOps p_code).1.Idxs).length) c_2], .string (bs ((s_DrawClearOps p_code).2.1)), .string (bs ((s_DrawClearOps p_code).2.2))] ∧ OwnL w' lo_1 hi_1 9 1 (RF e_Str) A_1 (((s_DrawClearOps p_code).1.Cols).length) c_1 ((s_DrawClearOps p_code).1.Cols) ∧ OwnL w' lo_2 hi_2 54 3 (RF e_Idx) A_2 (((s_DrawClearOps p_code).1.Idxs).length) c_2 ((s_DrawClearOps p_code).1.Idxs) ∧ ok_Table ((s_DrawClearOps p_code).1) ∧ okS ((s_DrawClearOps p_code).2.1) ∧ okS ((s_DrawClearOps p_code).2.2) ∧ (w.heap.size ≤ lo_1 ∧ lo_1 ≤ hi_1 ∧ hi_1 ≤ w'.heap.size) ∧ (w.heap.size ≤ lo_2 ∧ lo_2 ≤ hi_2 ∧ hi_2 ≤ w'.heap.size) ∧ (hi_1 ≤ lo_2 ∨ hi_2 ≤ lo_1) ∧ Ex w w' := by
 have hol3 := o2.1
 refine Cal.of func7 rfl ntmps7 rfl (cR (sd rfl (yB ty26 (cs := [.string (bs (([] : Str))), .slice none 0 0, .slice none 0 0]) rfl rfl ?_)))
 intro b4 w5 hs6 hz7 hB8 hE9
 refine sA rfl (sA rfl (dn (cR (sM rfl (sd rfl (yC en21 rfl (oc rfl oz) (Cal.mono (c_s_DrawReadIdxKey p_code (RdS.up (RdS.ex gU h1 hE9) gU) o2 (by assumption)) ?_)))))))
 rintro v17 w11 ⟨A12, c12, lo12, hi12, A13, c13, lo13, hi13, rfl, h12, h13, ho14, ho15, ho16, hrn19, hrn20, hrn21, hE18⟩
 have hE18z := Ex.size hE18
 refine sd rfl (yl_extract rfl rfl rfl (sd rfl (yl_extract rfl rfl rfl (sd rfl (yl_extract rfl rfl rfl (SeqR.u rfl rfl (yl_store (vs := [.string (bs ((s_DrawReadIdxKey p_code).1.Name)), .slice A12 (((s_DrawReadIdxKey p_code).1.Cols).length) c12, .slice A13 (((s_DrawReadIdxKey p_code).1.Idxs).length) c13]) ty26 rfl rfl rfl rfl rfl rfl (Box.ex hB8 hE18) (nb rfl) ?_)))))))
 intro w23 hB24 hO25
 have hB24 : Box w23 b4 26 [.string (bs ((s_DrawReadIdxKey p_code).1.Name)), .slice A12 (((s_DrawReadIdxKey p_code).1.Cols).length) c12, .slice A13 (((s_DrawReadIdxKey p_code).1.Idxs).length) c13] := hB24
 have hO25z := hO25.size
 refine sA rfl (sA rfl (dn (CW.ret (rr rfl (.cons ⟨_, rfl, run_loadN ty26 (cs := [.string (bs ((s_DrawReadIdxKey p_code).1.Name)), .slice A12 (((s_DrawReadIdxKey p_code).1.Cols).length) c12, .slice A13 (((s_DrawReadIdxKey p_code).1.Idxs).length) c13]) rfl (hB24.cells (n := 3) rfl)⟩ (.cons rfl (.cons rfl .nil))) ?_))))
 have hM26 : (s_DrawClearOps p_code) = (((s_DrawReadIdxKey p_code).1, (s_DrawReadIdxKey p_code).2.1, (s_DrawReadIdxKey p_code).2.2)) := by simp only [s_DrawClearOps, cL]
 rw [hM26]
 exact ⟨A12, c12, lo12, hi12, A13, c13, lo13, hi13, rfl, (OwnL.only gS h12 hO25 oM), (OwnL.only gI h13 hO25 oM), ho14, ho15, ho16, oM, oM, oM, (Below.only (Ex.trans (Ex.trans (Ex.refl w) hE9) hE18) hO25 oM)⟩
theorem c_g_internal_stringslite_HasPrefix {w : World} (p_s : Str) (p_prefix : Str) (o1 : okS p_s) (o2 : okS p_prefix) : Cal Tryz.prog 117 #[.string (bs (p_s)), .string (bs (p_prefix))] w fun v w' => v = .bool ((g_internal_stringslite_HasPrefix p_s p_prefix)) ∧ Ex w w' := by
 have hol3 : p_s.length ≤ 1073741824 := o1
 have hol4 : p_prefix.length ≤ 1073741824 := o2
 refine Cal.of func117 rfl ntmps117 rfl (cR (sA rfl (dn (cR (sM rfl ?_)))))
 refine sd rfl (yl_slen un9 (a := p_s) rfl rfl (sM rfl (sd rfl (yl_slen un9 (a := p_prefix) rfl rfl (sd rfl (yl_geq rfl rfl rfl (sM rfl (bcase (decide ((p_prefix.length : Int) ≤ (p_s.length : Int))) (fun hb5 => ?_) (fun hb5 => ?_)))))))))
 ·have hb5p := dec_t hb5
  refine sy rfl rfl hb5 (yM rfl rfl (sy rfl rfl hb5 (yM rfl rfl (sy rfl rfl hb5 (yl_slen un9 (a := p_prefix) rfl rfl (sy rfl rfl hb5 (yl_sslice_hi un9 (a := p_s) (h := p_prefix.length) rfl rfl rfl oM (sy rfl rfl hb5 (yM rfl rfl (sy rfl rfl hb5 (yl_seql (a := (p_s.take p_prefix.length)) (b := p_prefix) rfl rfl rfl (sd rfl (yl_pick_t rfl rfl hb5 rfl (sA rfl (SeqR.done ?_)))))))))))))))
  refine tn (CW.ret (rr rfl (.cons rfl .nil) ?_))
  have hM6 : (g_internal_stringslite_HasPrefix p_s p_prefix) = ((p_s.take p_prefix.length) == p_prefix) := by simp only [g_internal_stringslite_HasPrefix, hb5, cL]
  rw [hM6]
  exact ⟨rfl, (Ex.refl w)⟩
 ·have hb5p := dec_f hb5
  refine sz rfl rfl hb5 (sz rfl rfl hb5 (sz rfl rfl hb5 (sz rfl rfl hb5 (sz rfl rfl hb5 (sz rfl rfl hb5 (sd rfl (yl_pick_f rfl rfl hb5 rfl (sA rfl (SeqR.done ?_)))))))))
  refine tn (CW.ret (rr rfl (.cons rfl .nil) ?_))
  have hM7 : (g_internal_stringslite_HasPrefix p_s p_prefix) = (false) := by simp only [g_internal_stringslite_HasPrefix, hb5, cL]
  rw [hM7]
  exact ⟨rfl, (Ex.refl w)⟩
theorem c_g_internal_stringslite_CutPrefix {w : World} (p_s : Str) (p_prefix : Str) (o1 : okS p_s) (o2 : okS p_prefix) : Cal Tryz.prog 103 #[.string (bs (p_s)), .string (bs (p_prefix))] w fun v w' => v = .tuple #[.string (bs ((g_internal_stringslite_CutPrefix p_s p_prefix).1)), .bool ((g_internal_stringslite_CutPrefix p_s p_prefix).2)] ∧ okS ((g_internal_stringslite_CutPrefix p_s p_prefix).1) ∧ Ex w w' := by
 have hol3 : p_s.length ≤ 1073741824 := o1
 have hol4 : p_prefix.length ≤ 1073741824 := o2
 refine Cal.of func103 rfl ntmps103 rfl (cR (sA rfl (sA rfl (dn (CW.seq (CW.seq ?_))))))
 refine CW.region (sM rfl (sM rfl (sd rfl (yC en117 rfl (oc rfl (oc rfl oz)) (Cal.mono (c_g_internal_stringslite_HasPrefix p_s p_prefix o1 o2) ?_)))))
 rintro v6 w5 ⟨rfl, hE7⟩
 have hE7z := Ex.size hE7
 refine sd rfl (yl_not rfl rfl (dn (bcase (g_internal_stringslite_HasPrefix p_s p_prefix) (fun hb8 => ?_) (fun hb8 => ?_))))
 ·have hb8p := f_HasPrefix hb8
  refine CW.cond_f rfl (not_t hb8) (CW.skip (tn (cR (sM rfl (sM rfl (sd rfl (yl_slen un9 (a := p_prefix) rfl rfl (sd rfl (yl_sslice_lo un9 (a := p_s) (l := p_prefix.length) rfl rfl rfl oM ?_)))))))))
  refine sA rfl (sA rfl (dn (CW.ret (rr rfl (.cons rfl (.cons rfl .nil)) ?_))))
  have hM9 : (g_internal_stringslite_CutPrefix p_s p_prefix) = (((p_s.drop p_prefix.length), true)) := by simp only [g_internal_stringslite_CutPrefix, hb8, cL]
  rw [hM9]
  exact ⟨rfl, (okS.drop o1 _), (Ex.trans (Ex.refl w) hE7)⟩
 ·refine CW.cond_t rfl (not_f hb8) (cR (sM rfl (sA rfl (sA rfl (dn (CW.ret ?_))))))
  refine tr (rr rfl (.cons rfl (.cons rfl .nil)) ?_)
  have hM11 : (g_internal_stringslite_CutPrefix p_s p_prefix) = ((p_s, false)) := by simp only [g_internal_stringslite_CutPrefix, hb8, cL]
  rw [hM11]
  exact ⟨rfl, o1, (Ex.trans (Ex.refl w) hE7)⟩
theorem c_g_strings_CutPrefix {w : World} (p_s : Str) (p_prefix : Str) (o1 : okS p_s) (o2 : okS p_prefix) : Cal Tryz.prog 77 #[.string (bs (p_s)), .string (bs (p_prefix))] w fun v w' => v = .tuple #[.string (bs ((g_strings_CutPrefix p_s p_prefix).1)), .bool ((g_strings_CutPrefix p_s p_prefix).2)] ∧ okS ((g_strings_CutPrefix p_s p_prefix).1) ∧ Ex w w' := by
 refine Cal.of func77 rfl ntmps77 rfl (cR (sA rfl (sA rfl (dn (cR ?_)))))
 refine sM rfl (sM rfl (sd rfl (yC en103 rfl (oc rfl (oc rfl oz)) (Cal.mono (c_g_internal_stringslite_CutPrefix p_s p_prefix o1 o2) ?_))))
 rintro v7 w5 ⟨rfl, ho6, hE8⟩
 refine sd rfl (yl_extract rfl rfl rfl (sd rfl (yl_extract rfl rfl rfl (sA rfl (sA rfl (dn (CW.ret (rr rfl (.cons rfl (.cons rfl .nil)) ?_))))))))
 have hM9 : (g_strings_CutPrefix p_s p_prefix) = (((g_internal_stringslite_CutPrefix p_s p_prefix).1, (g_internal_stringslite_CutPrefix p_s p_prefix).2)) := by simp only [g_strings_CutPrefix, cL]
 rw [hM9]
 exact ⟨rfl, ho6, (Ex.trans (Ex.refl w) hE8)⟩
theorem c_g_internal_bytealg_Cutover {w : World} (p_n : Int) : Cal Tryz.prog 126 #[.int .i64 (p_n)] w fun v w' => v = .int .i64 ((g_internal_bytealg_Cutover p_n)) ∧ Ex w w' := by
 refine Cal.of func126 rfl ntmps126 rfl (cR (sA rfl (dn (cR (sM rfl ?_)))))
 refine sd rfl (yl_add rfl rfl rfl (sd rfl (yl_quo rfl rfl rfl (by decide) (sA rfl (dn (CW.ret (rr rfl (.cons rfl .nil) ?_)))))))
 have hM1 : (g_internal_bytealg_Cutover p_n) = (IntKind.wrap .i64 (Int.tdiv (IntKind.wrap .i64 (p_n + 16)) 8)) := by simp only [g_internal_bytealg_Cutover, cL]
 rw [hM1]
 exact ⟨rfl, (Ex.refl w)⟩
theorem c_g_internal_stringslite_Index {w : World} (p_0 : Str) (p_1 : Str) (o1 : okS p_0) (o2 : okS p_1) (pre0 : p_1.length = 1) : Cal Tryz.prog 118 #[.string (bs (p_0)), .string (bs (p_1))] w fun v w' => v = .int .i64 ((g_internal_stringslite_Index p_0 p_1)) ∧ Ex w w' := by
 have hol3 : p_0.length ≤ 1073741824 := o1
 have hol4 : p_1.length ≤ 1073741824 := o2
 refine Cal.of func118 rfl ntmps118 rfl (cR (sA rfl (dn (cR (sM rfl ?_)))))
 refine sd rfl (yl_slen un9 (a := p_1) rfl rfl (sA rfl (dn (CW.seq (CW.block (cR (sM rfl ?_)))))))
 refine sd rfl (yl_eql rfl rfl rfl (sM rfl (sy rfl rfl (decide_eq_false oM) (yM rfl rfl (sy rfl rfl (decide_eq_false oM) (yM rfl rfl (sy rfl rfl (decide_eq_false oM) (yl_seql (a := p_1) (b := p_0) rfl rfl rfl (sd rfl (yl_pick_f rfl rfl (decide_eq_false oM) rfl (sA rfl (dn ?_))))))))))))
 refine bcase (p_1 == p_0) (fun hb5 => ?_) (fun hb5 => ?_)
 ·refine CW.cond_t rfl hb5 (cR (sA rfl (dn (CW.ret (br (tr ?_))))))
  refine rr rfl (.cons rfl .nil) ?_
  have hM6 : (g_internal_stringslite_Index p_0 p_1) = (0) := by simp only [g_internal_stringslite_Index, hb5, cL]
  rw [hM6]
  exact ⟨rfl, (Ex.refl w)⟩
 ·refine CW.cond_f rfl hb5 (cR (sM rfl (sd rfl (yl_eql rfl rfl rfl (sA rfl (dn (CW.cond_t rfl (decide_eq_true oM) ?_)))))))
  refine cR (sM rfl (sM rfl (sd rfl (yl_sindexN un9 (a := p_1) rfl rfl rfl Bo (sd rfl (yC en122 rfl (oc rfl (oc rfl oz)) (Cal.mono (c_g_internal_stringslite_IndexByte p_0 ((p_1.getD 0 0).toNat : Int) o1) ?_)))))))
  rintro v8 w7 ⟨rfl, hE9⟩
  have hE9z := Ex.size hE9
  refine sA rfl (dn (CW.ret (br (tr (rr rfl (.cons rfl .nil) ?_)))))
  have hM10 : (g_internal_stringslite_Index p_0 p_1) = ((g_internal_stringslite_IndexByte p_0 ((p_1.getD 0 0).toNat : Int))) := by simp only [g_internal_stringslite_Index, hb5, cL]
  rw [hM10]
  exact ⟨rfl, (Ex.trans (Ex.refl w) hE9)⟩
theorem c_g_internal_stringslite_Cut {w : World} (p_s : Str) (p_sep : Str) (o1 : okS p_s) (o2 : okS p_sep) (pre0 : p_sep.length = 1) : Cal Tryz.prog 104 #[.string (bs (p_s)), .string (bs (p_sep))] w fun v w' => v = .tuple #[.string (bs ((g_internal_stringslite_Cut p_s p_sep).1)), .string (bs ((g_internal_stringslite_Cut p_s p_sep).2.1)), .bool ((g_internal_stringslite_Cut p_s p_sep).2.2)] ∧ okS ((g_internal_stringslite_Cut p_s p_sep).1) ∧ okS ((g_internal_stringslite_Cut p_s p_sep).2.1) ∧ Ex w w' := by
 have hol3 : p_s.length ≤ 1073741824 := o1
 have hol4 : p_sep.length ≤ 1073741824 := o2
 refine Cal.of func104 rfl ntmps104 rfl (cR (sA rfl (sA rfl (sA rfl (dn (CW.seq ?_))))))
 refine cR (sM rfl (sM rfl (sd rfl (yC en118 rfl (oc rfl (oc rfl oz)) (Cal.mono (c_g_internal_stringslite_Index p_s p_sep o1 o2 Bo) ?_)))))
 rintro v6 w5 ⟨rfl, hE7⟩
 have hE7z := Ex.size hE7
 have hrf8 := rf_Index (s := p_s) (sub := p_sep) Bo
 refine sA rfl (dn (cR (sM rfl (sd rfl (yl_geq rfl rfl rfl (dn ?_))))))
 refine bcase (decide (0 ≤ (g_internal_stringslite_Index p_s p_sep))) (fun hb9 => ?_) (fun hb9 => ?_)
 ·have hb9p := dec_t hb9
  have hb9q := f_Cut o1 pre0 hb9
  refine CW.cond_t rfl hb9 (CW.seq (drI 12 [.string (bs (p_s)), .int .i64 ((g_internal_stringslite_Index p_s p_sep)), .string (bs ((p_s.take (((g_internal_stringslite_Index p_s p_sep)).toNat)))), .string (bs (p_s)), .int .i64 ((g_internal_stringslite_Index p_s p_sep)), .string (bs (p_sep)), .int .i64 ((p_sep.length : Int)), .int .i64 (IntKind.wrap .i64 ((g_internal_stringslite_Index p_s p_sep) + (p_sep.length : Int))), .string (bs ((p_s.drop ((IntKind.wrap .i64 ((g_internal_stringslite_Index p_s p_sep) + (p_sep.length : Int))).toNat)))), .string (bs ((p_s.take (((g_internal_stringslite_Index p_s p_sep)).toNat)))), .string (bs ((p_s.drop ((IntKind.wrap .i64 ((g_internal_stringslite_Index p_s p_sep) + (p_sep.length : Int))).toNat)))), .bool (true)] Tryz.follows rfl ⟨?_, ?_, ?_, ?_, ?_, ?_, ?_, ?_, ?_, ?_, ?_, ?_, trivial⟩ ?_))
  ·exact oI rfl fun h => yM rfl (h.old 0 _ rfl rfl) kI
  ·exact oI rfl fun h => yM rfl (h.old 7 _ rfl rfl) kI
  ·intro L20 w21 hi22
   have hE23 := hi22.ex
   have hE23z := Ex.size hE23
   exact os rfl ((yl_sslice_hi un9 (a := p_s) (h := ((g_internal_stringslite_Index p_s p_sep)).toNat) rfl (hi22.dt 0 13 rfl rfl rfl) (toNat_op (hi22.dt 1 14 rfl rfl rfl) oM) oM kI))
  ·exact oI rfl fun h => yM rfl (h.old 0 _ rfl rfl) kI
  ·exact oI rfl fun h => yM rfl (h.old 7 _ rfl rfl) kI
  ·exact oI rfl fun h => yM rfl (h.old 1 _ rfl rfl) kI
  ·exact oI rfl fun h => yl_slen un9 (a := p_sep) rfl (h.dt 5 18 rfl rfl rfl) kI
  ·exact oI rfl fun h => yl_add rfl (h.dt 4 17 rfl rfl rfl) (h.dt 6 19 rfl rfl rfl) kI
  ·intro L52 w53 hi54
   have hE55 := hi54.ex
   have hE55z := Ex.size hE55
   exact os rfl ((yl_sslice_lo un9 (a := p_s) (l := (IntKind.wrap .i64 ((g_internal_stringslite_Index p_s p_sep) + (p_sep.length : Int))).toNat) rfl (hi54.dt 3 16 rfl rfl rfl) (toNat_op (hi54.dt 7 20 rfl rfl rfl) oM) oM kI))
  ·exact oI rfl fun h => yA rfl (h.dt 2 15 rfl rfl rfl) kI
  ·exact oI rfl fun h => yA rfl (h.dt 8 21 rfl rfl rfl) kI
  ·exact oI rfl fun _ => yA rfl rfl kI
  ·intro fl75 fh76 L72 w73 hp74
   have hE77 := hp74.ex
   have hE77z := Ex.size hE77
   refine dn (CW.sub (sC 4 (hp74.nt 9 4 rfl rfl rfl) (sC 5 (hp74.nt 10 5 rfl rfl rfl) (sC 6 (hp74.nt 11 6 rfl rfl rfl) (Sub.nil _)))) (CW.ret (tr (rr rfl (.cons rfl (.cons rfl (.cons rfl .nil))) ?_))))
   have hM81 : (g_internal_stringslite_Cut p_s p_sep) = (((p_s.take (((g_internal_stringslite_Index p_s p_sep)).toNat)), (p_s.drop ((IntKind.wrap .i64 ((g_internal_stringslite_Index p_s p_sep) + (p_sep.length : Int))).toNat)), true)) := by simp only [g_internal_stringslite_Cut, hb9, cL]
   rw [hM81]
   exact ⟨rfl, (okS.take o1 _), (okS.drop o1 _), (Ex.trans (Ex.trans (Ex.refl w) hE7) hE77)⟩
 ·have hb9p := dec_f hb9
  refine CW.cond_f rfl hb9 (CW.skip (tn (cR (sM rfl (sA rfl (sA rfl (sA rfl ?_)))))))
  refine dn (CW.ret (rr rfl (.cons rfl (.cons rfl (.cons rfl .nil))) ?_))
  have hM84 : (g_internal_stringslite_Cut p_s p_sep) = ((p_s, ([] : Str), false)) := by simp only [g_internal_stringslite_Cut, hb9, cL]
  rw [hM84]
  exact ⟨rfl, o1, (okS.lit rfl), (Ex.trans (Ex.refl w) hE7)⟩
theorem c_g_strings_Cut {w : World} (p_s : Str) (p_sep : Str) (o1 : okS p_s) (o2 : okS p_sep) (pre0 : p_sep.length = 1) : Cal Tryz.prog 78 #[.string (bs (p_s)), .string (bs (p_sep))] w fun v w' => v = .tuple #[.string (bs ((g_strings_Cut p_s p_sep).1)), .string (bs ((g_strings_Cut p_s p_sep).2.1)), .bool ((g_strings_Cut p_s p_sep).2.2)] ∧ okS ((g_strings_Cut p_s p_sep).1) ∧ okS ((g_strings_Cut p_s p_sep).2.1) ∧ Ex w w' := by
 have hol3 : p_s.length ≤ 1073741824 := o1
 have hol4 : p_sep.length ≤ 1073741824 := o2
 refine Cal.of func78 rfl ntmps78 rfl (cR (sA rfl (sA rfl (sA rfl (dn (CW.seq ?_))))))
 refine CW.region (sM rfl (sM rfl (sd rfl (yC en104 rfl (oc rfl (oc rfl oz)) (Cal.mono (c_g_internal_stringslite_Cut p_s p_sep o1 o2 Bo) ?_)))))
 rintro v8 w5 ⟨rfl, ho6, ho7, hE9⟩
 have hE9z := Ex.size hE9
 refine sd rfl (yl_extract rfl rfl rfl (sd rfl (yl_extract rfl rfl rfl (sd rfl (yl_extract rfl rfl rfl (sA rfl (sA rfl (sA rfl (dn (CW.ret ?_))))))))))
 refine rr rfl (.cons rfl (.cons rfl (.cons rfl .nil))) ?_
 have hM10 : (g_strings_Cut p_s p_sep) = (((g_internal_stringslite_Cut p_s p_sep).1, (g_internal_stringslite_Cut p_s p_sep).2.1, (g_internal_stringslite_Cut p_s p_sep).2.2)) := by simp only [g_strings_Cut, cL]
 rw [hM10]
 exact ⟨rfl, ho6, ho7, (Ex.trans (Ex.refl w) hE9)⟩
theorem c_i_Table_readIdxKey {A1 : Option Addr} {c1 : Nat} {A2 : Option Addr} {c2 : Nat} {w : World} (p_t : DTable) (pn : Str) (p_key : Str) (h1 : RdS w (Iv 0 w.heap.size) (RF e_Str) 1 A1 p_t.Cols.length c1 p_t.Cols) (h2 : RdS w (Iv 0 w.heap.size) (RF e_Idx) 3 A2 p_t.Idxs.length c2 p_t.Idxs) (o3 : ok_Table p_t) (o4 : okS pn) (o5 : okS p_key) (pre0 : (p_t.Name.length ≤ 1 ∧ pn.length ≤ 1)) : Cal Tryz.prog 46 #[.agg #[.string (bs (p_t.Name)), .slice A1 p_t.Cols.length c1, .slice A2 p_t.Idxs.length c2], .string (bs (pn)), .string (bs (p_key))] w fun v w' => v = .tuple #[.string (bs ((i_Table_readIdxKey p_t pn p_key).1)), .string (bs ((i_Table_readIdxKey p_t pn p_key).2.1)), .bool ((i_Table_readIdxKey p_t pn p_key).2.2)] ∧ okS ((i_Table_readIdxKey p_t pn p_key).1) ∧ okS ((i_Table_readIdxKey p_t pn p_key).2.1) ∧ Ex w w' := by
 refine Cal.of func46 rfl ntmps46 rfl (cR (sd rfl (yl_box rfl rfl rfl ?_)))
 intro b11 w12 hs13 hz14 hB15 hE16
 refine sA rfl (sA rfl (sA rfl (dn (cR (sM rfl (sd rfl (yl_loadN ty26 rfl rfl (hB15.cells (n := 3) rfl) rfl ?_)))))))
 refine sM rfl (sd rfl (yC en71 rfl (oc rfl (oc rfl oz)) (Cal.mono (c_i_Table_idxHead p_t pn (RdS.up (RdS.ex gS h1 hE16) gS) (RdS.up (RdS.ex gI h2 hE16) gI) o3 o4) ?_)))
 rintro v20 w19 ⟨rfl, hE21⟩
 have hrf22 := rf_idxHead p_t pn
 refine sd rfl (yC en77 rfl (oc rfl (oc rfl oz)) (Cal.mono (c_g_strings_CutPrefix p_key (i_Table_idxHead p_t pn) o5 (okS_idxHead pre0)) ?_))
 rintro v25 w23 ⟨rfl, ho24, hE26⟩
 refine sM rfl (sd rfl (yl_extract rfl rfl rfl (sd rfl (yl_extract rfl rfl rfl (sA rfl (sA rfl (dn (cR ?_))))))))
 refine sM rfl (sd rfl (yC en78 rfl (oc rfl (oc rfl oz)) (Cal.mono (c_g_strings_Cut ((g_strings_CutPrefix p_key (i_Table_idxHead p_t pn)).1) ([47] : Str) ho24 (okS.lit rfl) rfl) ?_)))
 rintro v30 w27 ⟨rfl, ho28, ho29, hE31⟩
 have y0 := Ex.trans (Ex.trans (Ex.trans (Ex.trans (Ex.refl w) hE16) hE21) hE26) hE31
 refine sM rfl (sd rfl (yl_extract rfl rfl rfl (sd rfl (yl_extract rfl rfl rfl (sd rfl (yl_extract rfl rfl rfl (sA rfl (sA rfl (sA rfl (dn ?_))))))))))
 refine CW.seq (cR (sM rfl (sd rfl (yl_not rfl rfl (sM rfl (bcase ((g_strings_CutPrefix p_key (i_Table_idxHead p_t pn)).2) (fun hb32 => ?_) (fun hb32 => ?_)))))))
 ·refine sy rfl rfl (not_t hb32) (yM rfl rfl (sy rfl rfl (not_t hb32) (yl_not rfl rfl (sd rfl (yl_pick_f rfl rfl (not_t hb32) rfl (sM rfl (bcase ((g_strings_Cut ((g_strings_CutPrefix p_key (i_Table_idxHead p_t pn)).1) ([47] : Str)).2.2) (fun hb33 => ?_) (fun hb33 => ?_))))))))
  ·refine sy rfl rfl (not_t hb33) (yM rfl rfl (sy rfl rfl (not_t hb33) (yC en67 rfl (oc rfl oz) (Cal.mono (c_i_isField ((g_strings_Cut ((g_strings_CutPrefix p_key (i_Table_idxHead p_t pn)).1) ([47] : Str)).1) ho28) ?_))))
   rintro v35 w34 ⟨rfl, hE36⟩
   refine sy rfl rfl (not_t hb33) (yl_not rfl rfl (sd rfl (yl_pick_f rfl rfl (not_t hb33) rfl (sM rfl (bcase (i_isField ((g_strings_Cut ((g_strings_CutPrefix p_key (i_Table_idxHead p_t pn)).1) ([47] : Str)).1)) (fun hb37 => ?_) (fun hb37 => ?_))))))
   ·refine sy rfl rfl (not_t hb37) (yM rfl rfl (sy rfl rfl (not_t hb37) (yC en67 rfl (oc rfl oz) (Cal.mono (c_i_isField ((g_strings_Cut ((g_strings_CutPrefix p_key (i_Table_idxHead p_t pn)).1) ([47] : Str)).2.1) ho29) ?_))))
    rintro v39 w38 ⟨rfl, hE40⟩
    refine sy rfl rfl (not_t hb37) (yl_not rfl rfl (sd rfl (yl_pick_f rfl rfl (not_t hb37) rfl (dn (bcase (i_isField ((g_strings_Cut ((g_strings_CutPrefix p_key (i_Table_idxHead p_t pn)).1) ([47] : Str)).2.1)) (fun hb41 => ?_) (fun hb41 => ?_))))))
    ·refine CW.cond_f rfl (not_t hb41) (CW.skip (tn (cR (sM rfl (sM rfl (sA rfl (sA rfl ?_)))))))
     refine sA rfl (dn (CW.ret (rr rfl (.cons rfl (.cons rfl (.cons rfl .nil))) ?_)))
     have hM42 : (i_Table_readIdxKey p_t pn p_key) = (((g_strings_Cut ((g_strings_CutPrefix p_key (i_Table_idxHead p_t pn)).1) ([47] : Str)).1, (g_strings_Cut ((g_strings_CutPrefix p_key (i_Table_idxHead p_t pn)).1) ([47] : Str)).2.1, true)) := by simp only [i_Table_readIdxKey, hb32, hb33, hb37, hb41, cL]
     rw [hM42]
     exact ⟨rfl, ho28, ho29, (Ex.trans (Ex.trans y0 hE36) hE40)⟩
    ·refine CW.cond_t rfl (not_f hb41) (cR (sA rfl (sA rfl (sA rfl (dn (CW.ret ?_))))))
     refine tr (rr rfl (.cons rfl (.cons rfl (.cons rfl .nil))) ?_)
     have hM49 : (i_Table_readIdxKey p_t pn p_key) = ((([] : Str), ([] : Str), false)) := by simp only [i_Table_readIdxKey, hb32, hb33, hb37, hb41, cL]
     rw [hM49]
     exact ⟨rfl, (okS.lit rfl), (okS.lit rfl), (Ex.trans (Ex.trans y0 hE36) hE40)⟩
   ·refine sz rfl rfl (not_f hb37) (sz rfl rfl (not_f hb37) (sz rfl rfl (not_f hb37) (sd rfl (yl_pick_t rfl rfl (not_f hb37) rfl (dn (CW.cond_t rfl rfl (cR ?_)))))))
    refine sA rfl (sA rfl (sA rfl (dn (CW.ret (tr (rr rfl (.cons rfl (.cons rfl (.cons rfl .nil))) ?_))))))
    have hM56 : (i_Table_readIdxKey p_t pn p_key) = ((([] : Str), ([] : Str), false)) := by simp only [i_Table_readIdxKey, hb32, hb33, hb37, cL]
    rw [hM56]
    exact ⟨rfl, (okS.lit rfl), (okS.lit rfl), (Ex.trans y0 hE36)⟩
  ·refine sz rfl rfl (not_f hb33) (sz rfl rfl (not_f hb33) (sz rfl rfl (not_f hb33) (sd rfl (yl_pick_t rfl rfl (not_f hb33) rfl (sM rfl (sz rfl rfl rfl (sz rfl rfl rfl (sz rfl rfl rfl (sd rfl (yl_pick_t rfl rfl rfl rfl ?_))))))))))
   refine dn (CW.cond_t rfl rfl (cR (sA rfl (sA rfl (sA rfl (SeqR.done ?_))))))
   refine tn (CW.ret (tr (rr rfl (.cons rfl (.cons rfl (.cons rfl .nil))) ?_)))
   have hM62 : (i_Table_readIdxKey p_t pn p_key) = ((([] : Str), ([] : Str), false)) := by simp only [i_Table_readIdxKey, hb32, hb33, cL]
   rw [hM62]
   exact ⟨rfl, (okS.lit rfl), (okS.lit rfl), y0⟩
 ·refine sz rfl rfl (not_f hb32) (sz rfl rfl (not_f hb32) (sd rfl (yl_pick_t rfl rfl (not_f hb32) rfl (sM rfl (sz rfl rfl rfl (sz rfl rfl rfl (sz rfl rfl rfl (sd rfl (yl_pick_t rfl rfl rfl rfl (sM rfl ?_))))))))))
  refine sz rfl rfl rfl (sz rfl rfl rfl (sz rfl rfl rfl (sd rfl (yl_pick_t rfl rfl rfl rfl (dn (CW.cond_t rfl rfl (cR ?_)))))))
  refine sA rfl (sA rfl (sA rfl (dn (CW.ret (tr (rr rfl (.cons rfl (.cons rfl (.cons rfl .nil))) ?_))))))
  have hM67 : (i_Table_readIdxKey p_t pn p_key) = ((([] : Str), ([] : Str), false)) := by simp only [i_Table_readIdxKey, hb32, cL]
  rw [hM67]
  exact ⟨rfl, (okS.lit rfl), (okS.lit rfl), y0⟩
theorem c_i_ReadIdxKey {A1 : Option Addr} {c1 : Nat} {A2 : Option Addr} {c2 : Nat} {w : World} (p_t : DTable) (pn : Str) (p_key : Str) (h1 : RdS w (Iv 0 w.heap.size) (RF e_Str) 1 A1 p_t.Cols.length c1 p_t.Cols) (h2 : RdS w (Iv 0 w.heap.size) (RF e_Idx) 3 A2 p_t.Idxs.length c2 p_t.Idxs) (o3 : ok_Table p_t) (o4 : okS pn) (o5 : okS p_key) : Cal Tryz.prog 22 #[.agg #[.string (bs (p_t.Name)), .slice A1 p_t.Cols.length c1, .slice A2 p_t.Idxs.length c2], .string (bs (pn)), .string (bs (p_key))] w fun v w' => v = .tuple #[.string (bs ((i_ReadIdxKey p_t pn p_key).1)), .string (bs ((i_ReadIdxKey p_t pn p_key).2.1)), .bool ((i_ReadIdxKey p_t pn p_key).2.2)] ∧ okS ((i_ReadIdxKey p_t pn p_key).1) ∧ okS ((i_ReadIdxKey p_t pn p_key).2.1) ∧ Ex w w' := by
 have hol6 : p_t.Name.length ≤ 1073741824 := o3.1
 have hol7 := o3.2.1.1
 have hol8 := o3.2.2.1
 have hol9 : pn.length ≤ 1073741824 := o4
 have hol10 : p_key.length ≤ 1073741824 := o5
 refine Cal.of func22 rfl ntmps22 rfl (cR (sd rfl (yl_box rfl rfl rfl ?_)))
 intro b11 w12 hs13 hz14 hB15 hE16
 refine sA rfl (sA rfl (sA rfl (dn (CW.seq (cR (sd rfl (yl_loadN ty26 rfl rfl (hB15.cells (n := 3) rfl) rfl ?_)))))))
 refine sM rfl ?_
 have q17 := RdS.ex gS h1 hE16
 have q18 := RdS.ex gI h2 hE16
 refine sd rfl (yC en16 rfl (oc rfl (oc rfl oz)) (Cal.mono (c_i_hasIdx p_t pn (RdS.up q17 gS) (RdS.up q18 gI) o3 o4) ?_))
 rintro v20 w19 ⟨rfl, hE21⟩
 have hE21z := Ex.size hE21
 refine sd rfl (yl_not rfl rfl (dn (bcase (i_hasIdx p_t pn) (fun hb22 => ?_) (fun hb22 => ?_))))
 ·obtain ⟨hb22p0, hb22p1, hb22p2⟩ := f_i_hasIdx hb22
  refine CW.cond_f rfl (not_t hb22) (CW.skip (tn (cR (sd rfl (yl_loadN ty26 rfl rfl ((Box.ex hB15 hE21).cells (n := 3) rfl) rfl (sM rfl (sM rfl (sd rfl (yC en46 rfl (oc rfl (oc rfl (oc rfl oz))) (Cal.mono (c_i_Table_readIdxKey p_t pn p_key (RdS.up (RdS.ex gS q17 hE21) gS) (RdS.up (RdS.ex gI q18 hE21) gI) o3 o4 o5 Bo) ?_))))))))))
  rintro v29 w26 ⟨rfl, ho27, ho28, hE30⟩
  have hE30z := Ex.size hE30
  refine sd rfl (yl_extract rfl rfl rfl (sd rfl (yl_extract rfl rfl rfl (sd rfl (yl_extract rfl rfl rfl (sA rfl (sA rfl (sA rfl (dn (CW.ret ?_))))))))))
  refine rr rfl (.cons rfl (.cons rfl (.cons rfl .nil))) ?_
  have hM31 : (i_ReadIdxKey p_t pn p_key) = (((i_Table_readIdxKey p_t pn p_key).1, (i_Table_readIdxKey p_t pn p_key).2.1, (i_Table_readIdxKey p_t pn p_key).2.2)) := by simp only [i_ReadIdxKey, hb22, cL]
  rw [hM31]
  exact ⟨rfl, ho27, ho28, (Ex.trans (Ex.trans (Ex.trans (Ex.refl w) hE16) hE21) hE30)⟩
 ·refine CW.cond_t rfl (not_f hb22) (cR (sA rfl (sA rfl (sA rfl (dn (CW.ret ?_))))))
  refine tr (rr rfl (.cons rfl (.cons rfl (.cons rfl .nil))) ?_)
  have hM35 : (i_ReadIdxKey p_t pn p_key) = ((([] : Str), ([] : Str), false)) := by simp only [i_ReadIdxKey, hb22, cL]
  rw [hM35]
  exact ⟨rfl, (okS.lit rfl), (okS.lit rfl), (Ex.trans (Ex.trans (Ex.refl w) hE16) hE21)⟩
theorem c_i_ClearOps {A1 : Option Addr} {c1 : Nat} {A2 : Option Addr} {c2 : Nat} {w : World} (p_t : DTable) (pn : Str) (p_key : Str) (h1 : RdS w (Iv 0 w.heap.size) (RF e_Str) 1 A1 p_t.Cols.length c1 p_t.Cols) (h2 : RdS w (Iv 0 w.heap.size) (RF e_Idx) 3 A2 p_t.Idxs.length c2 p_t.Idxs) (o3 : ok_Table p_t) (o4 : okS pn) (o5 : okS p_key) : Cal Tryz.prog 8 #[.agg #[.string (bs (p_t.Name)), .slice A1 p_t.Cols.length c1, .slice A2 p_t.Idxs.length c2], .string (bs (pn)), .string (bs (p_key))] w fun v w' => ∃ A_1 c_1 lo_1 hi_1, v = .tuple #[.slice A_1 (((i_ClearOps p_t pn p_key).1).length) c_1, .bool ((i_ClearOps p_t pn p_key).2)] ∧ OwnL w' lo_1 hi_1 61 4 (RF e_Op) A_1 (((i_ClearOps p_t pn p_key).1).length) c_1 ((i_ClearOps p_t pn p_key).1) ∧ (okL ok_Op) ((i_ClearOps p_t pn p_key).1) ∧ (w.heap.size ≤ lo_1 ∧ lo_1 ≤ hi_1 ∧ hi_1 ≤ w'.heap.size) ∧ Ex w w' := by
 have hol6 : p_t.Name.length ≤ 1073741824 := o3.1
 have hol7 := o3.2.1.1
 have hol8 := o3.2.2.1
 have hol9 : pn.length ≤ 1073741824 := o4
 have hol10 : p_key.length ≤ 1073741824 := o5
 refine Cal.of func8 rfl ntmps8 rfl (cR (sd rfl (yl_box rfl rfl rfl ?_)))
 intro b11 w12 hs13 hz14 hB15 hE16
 refine sA rfl (sA rfl (dn (CW.seq (cR (sd rfl (yl_loadN ty26 rfl rfl (hB15.cells (n := 3) rfl) rfl (sM rfl ?_)))))))
 refine sM rfl (sd rfl (yC en22 rfl (oc rfl (oc rfl (oc rfl oz))) (Cal.mono (c_i_ReadIdxKey p_t pn p_key (RdS.up (RdS.ex gS h1 hE16) gS) (RdS.up (RdS.ex gI h2 hE16) gI) o3 o4 o5) ?_)))
 rintro v22 w19 ⟨rfl, ho20, ho21, hE23⟩
 have hE23z := Ex.size hE23
 refine sM rfl (sd rfl (yl_extract rfl rfl rfl (sd rfl (yl_extract rfl rfl rfl (sd rfl (yl_extract rfl rfl rfl (sA rfl (sA rfl (sA rfl (dn ?_))))))))))
 refine cR (sM rfl (sd rfl (yl_not rfl rfl (dn (bcase ((i_ReadIdxKey p_t pn p_key).2.2) (fun hb24 => ?_) (fun hb24 => ?_))))))
 ·refine CW.cond_f rfl (not_t hb24) (CW.skip (tn (cR (sM rfl (sd rfl (yl_build (cs := [.int .i64 (3), .string (bs (p_key)), .string (bs (([] : Str))), .int .i64 (0)]) rfl (oc rfl (oc rfl oz)) (by kernel_rfl) (sd rfl (yl_buildSlice (cs := [.int .i64 (3), .string (bs (p_key)), .string (bs (([] : Str))), .int .i64 (0)]) un31 ty61 (by decide) rfl (oc rfl oz) (by kernel_rfl) ?_))))))))
  intro b25 w26 hs27 hz28 hB29 hE30
  have hO31 : OwnL w26 b25 (b25 + 1) 61 4 (RF e_Op) (some ⟨b25, 0, none⟩) 1 1 ([(⟨3, p_key, ([] : Str), 0⟩ : DOp)] : List DOp) := OwnL.of_box (S := fun _ => False) hB29 (Nat.le_refl _) (Nat.lt_succ_self _) (EncL.cons (c := [.int .i64 (3), .string (bs (p_key)), .string (bs (([] : Str))), .int .i64 (0)]) rfl rfl EncL.nil) (nb rfl) (fun h => h) (fun _ h => False.elim h)
  refine sA rfl (sA rfl (dn (CW.ret (rr rfl (.cons rfl (.cons rfl .nil)) ?_))))
  have hM32 : (i_ClearOps p_t pn p_key) = ((([(⟨3, p_key, ([] : Str), 0⟩ : DOp)] : List DOp), true)) := by simp only [i_ClearOps, hb24, cL]
  have hfx33 := (hO31).1
  rw [hM32]
  exact ⟨(some ⟨b25, 0, none⟩), 1, b25, (b25 + 1), (by first | rfl | (simp only [List.length_replicate, List.length_set]; done) | (simp only [List.length_replicate, List.length_set]; rfl) | rw [hfx33]), (OwnL.fix hO31), (okL.mk (nb rfl) (okE.cons ⟨o5, (okS.lit rfl)⟩ okE.nil)), oM, (Ex.trans (Ex.trans (Ex.trans (Ex.refl w) hE16) hE23) hE30)⟩
 ·refine CW.cond_t rfl (not_f hb24) (cR (sA rfl (sA rfl (dn (CW.ret (tr ?_))))))
  refine rr rfl (.cons rfl (.cons rfl .nil)) ?_
  have hM37 : (i_ClearOps p_t pn p_key) = ((([] : List DOp), false)) := by simp only [i_ClearOps, hb24, cL]
  rw [hM37]
  exact ⟨none, 0, w19.heap.size, w19.heap.size, rfl, (OwnL.nil _ _ _ _ _ _), (okL.nil _), oM, (Ex.trans (Ex.trans (Ex.refl w) hE16) hE23)⟩
theorem c_s_l1Split {w : World} (p_s : Str) (p_b : Int) (o1 : okS p_s) : Cal Tryz.prog 79 #[.string (bs (p_s)), .int .u8 (p_b)] w fun v w' => ∃ A_1 c_1 lo_1 hi_1, v = .slice A_1 ((s_l1Split p_s p_b).length) c_1 ∧ OwnL w' lo_1 hi_1 9 1 (RF e_Str) A_1 ((s_l1Split p_s p_b).length) c_1 (s_l1Split p_s p_b) ∧ (okL okS) (s_l1Split p_s p_b) ∧ (w.heap.size ≤ lo_1 ∧ lo_1 ≤ hi_1 ∧ hi_1 ≤ w'.heap.size) ∧ Ex w w' := by
 have hol2 : p_s.length ≤ 1073741824 := o1
 refine Cal.of func79 rfl ntmps79 rfl (cR (sA rfl (dn (cR (sA rfl ?_)))))
 refine dn (cR (sA rfl (dn (CW.seq (CW.seq ?_)))))
 refine CW.region (sA rfl (dn (CW.block (CW.loop (fun m26 L27 w28 => ∃ (k3 : Nat) (x21 : List Str) (x25 : Int) (A22 : Option Addr) (c23 : Nat) (u24 : Nat), m26 = p_s.length - k3 ∧ k3 ≤ p_s.length ∧ w.heap.size ≤ w28.heap.size ∧ lkp L27 0 = some (.string (bs (p_s))) ∧ lkp L27 1 = some (.int .u8 (p_b)) ∧ lkp L27 5 = some (.slice A22 x21.length c23) ∧ lkp L27 6 = some (.int .i64 (x25)) ∧ lkp L27 7 = some (.int .i64 ((k3 : Int))) ∧ OwnL w28 w.heap.size u24 9 1 (RF e_Str) A22 x21.length c23 x21 ∧ Ex w w28 ∧ (w.heap.size ≤ u24 ∧ u24 ≤ w28.heap.size) ∧ x21.length ≤ 0 + 1 * (k3 - 0) ∧ (∀ y ∈ x21, okS y) ∧ 0 ≤ x25 ∧ x25 ≤ (k3 : Int) ∧ loopM (B_s_l1Split_0 p_s p_b) (p_s.length - k3) k3 (x21, x25) = loopM (B_s_l1Split_0 p_s p_b) (p_s.length - 0) 0 (([] : List Str), 0)) (p_s.length - 0) ?_ ?_))))
 ·exact ⟨0, ([] : List Str), 0, none, 0, w.heap.size, rfl, oM, Nat.le_refl _, rfl, rfl, rfl, rfl, rfl, (OwnL.nil w w.heap.size w.heap.size 9 1 (RF e_Str)), (Ex.refl w), oM, (by first | (simp; done) | (first | omega | (simp only [lN, toS_length]; omega))), okE.nil, Bo, Bo, rfl⟩
 ·rintro m29 L30 w31 ⟨k3, x21, x25, A22, c23, u24, rfl, hk32, hsz34, hl35, hl36, hl37, hl38, hl39, hf40, hf41, hu42, hln43, hok44, hv45, hv46, hI33⟩
  refine CW.sub (Sub.cons hl35 (Sub.cons hl36 (Sub.cons hl37 (Sub.cons hl38 (Sub.cons hl39 (Sub.nil _)))))) ?_
  have hf41z := Ex.size hf41
  have hbg47 : p_s.length ≤ 1073741824 := o1
  rcases Nat.lt_or_ge k3 p_s.length with hlt48 | hlt48
  ·refine CW.seq (cR (sM rfl (sM rfl (sd rfl (yl_slen un9 (a := p_s) rfl rfl (sd rfl (yl_lss rfl rfl rfl (dn ?_))))))))
   refine CW.cond_t rfl (lt_t hlt48) (CW.skip (tn (CW.seq (CW.block (cR (sM rfl (sM rfl ?_)))))))
   refine sd rfl (yl_sindexN un9 (a := p_s) rfl rfl rfl Bo (sM rfl (sd rfl (yl_eql rfl rfl rfl (dn (bcase (decide (((p_s.getD k3 0).toNat : Int) = p_b)) (fun hb49 => ?_) (fun hb49 => ?_)))))))
   ·have hb49p := dec_t hb49
    refine CW.cond_t rfl hb49 (cR (sM rfl (sM rfl (sM rfl (sM rfl (sd rfl (yl_sslice_lh un9 (a := p_s) (l := (x25).toNat) (h := k3) rfl rfl (toNat_op rfl oM) rfl oM oM (sd rfl (yl_buildSlice (cs := [.string (bs (((p_s.take k3).drop ((x25).toNat))))]) un23 ty9 (by decide) rfl (oc rfl oz) (by kernel_rfl) ?_)))))))))
    intro b50 w51 hs52 hz53 hB54 hE55
    have hO56 : OwnL w51 b50 (b50 + 1) 9 1 (RF e_Str) (some ⟨b50, 0, none⟩) 1 1 ([((p_s.take k3).drop ((x25).toNat))] : List Str) := OwnL.of_box (S := fun _ => False) hB54 (Nat.le_refl _) (Nat.lt_succ_self _) (EncL.cons (c := [.string (bs (((p_s.take k3).drop ((x25).toNat))))]) rfl rfl EncL.nil) (nb rfl) (fun h => h) (fun _ h => False.elim h)
    refine sd rfl (yl_appendL (S := (fun _ => False)) (lo := w.heap.size) (hi := u24) (xs := x21) (ys := ([((p_s.take k3).drop ((x25).toNat))] : List Str)) gS un23 ty9 rfl (nb rfl) rfl rfl rfl (OwnL.ex gS hf40 hE55) (EncL.cons (c := [.string (bs (((p_s.take k3).drop ((x25).toNat))))]) rfl rfl EncL.nil) (Or.inr ⟨_, _, rfl, rfl, hB54.cells (o := 0) (n := 1) rfl⟩) rfl Bl Bl oM oM (fun _ h _ => False.elim h) oM ?_)
    intro A58 c59 w60 row61 hO62 hG63 hrg64
    have hG63z := hG63.size
    refine sA rfl (dn (CW.region (sM rfl (sd rfl (yl_inc rfl rfl rfl oM (sA rfl (SeqR.done (bn ?_))))))))
    refine tn (CW.region (sM rfl (sd rfl (yl_inc rfl rfl rfl oM (sA rfl (dn ?_))))))
    have hB65 : B_s_l1Split_0 p_s p_b k3 (x21, x25) = .cont ((x21 ++ ([((p_s.take k3).drop ((x25).toNat))] : List Str)), ((k3 + 1 : Nat) : Int)) := by simp only [B_s_l1Split_0, hb49, cL]
    exact ⟨p_s.length - (k3 + 1), oM, k3 + 1, (x21 ++ ([((p_s.take k3).drop ((x25).toNat))] : List Str)), ((k3 + 1 : Nat) : Int), A58, c59, w60.heap.size, rfl, hlt48, oM, rfl, rfl, rfl, rfl, rfl, hO62, (Below.grown (Ex.trans hf41 hE55) hG63 oM (fun k hk => by have := hrg64 k hk; omega)), oM, Bl, (okE.append hok44 ((okL.mk (nb rfl) (okE.cons (okS.drop (okS.take o1 _) _) okE.nil))).2), Bo, Bo, (loopM.cont hlt48 hB65).symm.trans hI33⟩
   ·have hb49p := dec_f hb49
    refine CW.cond_f rfl hb49 (CW.skip (bn (tn (CW.region (sM rfl (sd rfl (yl_inc rfl rfl rfl oM (sA rfl (SeqR.done ?_)))))))))
    refine tn ?_
    have hB68 : B_s_l1Split_0 p_s p_b k3 (x21, x25) = .cont (x21, x25) := by simp only [B_s_l1Split_0, hb49, cL]
    exact ⟨p_s.length - (k3 + 1), oM, k3 + 1, x21, x25, A22, c23, u24, rfl, hlt48, oM, rfl, rfl, rfl, rfl, rfl, hf40, hf41, oM, Bl, hok44, Bo, Bo, (loopM.cont hlt48 hB68).symm.trans hI33⟩
  ·refine CW.seq (cR (sM rfl (sM rfl (sd rfl (yl_slen un9 (a := p_s) rfl rfl (sd rfl (yl_lss rfl rfl rfl (dn ?_))))))))
   refine CW.cond_f rfl (lt_f hlt48) (CW.exit (tx (tx ?_)))
   have hL69 : loopM (B_s_l1Split_0 p_s p_b) (p_s.length - 0) 0 (([] : List Str), 0) = .done (x21, x25) := hI33.symm.trans (loopM.stop hlt48)
   refine bx (tn (cR (sM rfl (sM rfl (sM rfl (sd rfl (yl_sslice_lo un9 (a := p_s) (l := (x25).toNat) rfl rfl (toNat_op rfl oM) oM (sd rfl (yl_buildSlice (cs := [.string (bs ((p_s.drop ((x25).toNat))))]) un23 ty9 (by decide) rfl (oc rfl oz) (by kernel_rfl) ?_)))))))))
   intro b70 w71 hs72 hz73 hB74 hE75
   have hO76 : OwnL w71 b70 (b70 + 1) 9 1 (RF e_Str) (some ⟨b70, 0, none⟩) 1 1 ([(p_s.drop ((x25).toNat))] : List Str) := OwnL.of_box (S := fun _ => False) hB74 (Nat.le_refl _) (Nat.lt_succ_self _) (EncL.cons (c := [.string (bs ((p_s.drop ((x25).toNat))))]) rfl rfl EncL.nil) (nb rfl) (fun h => h) (fun _ h => False.elim h)
   refine sd rfl (yl_appendL (S := (fun _ => False)) (lo := w.heap.size) (hi := u24) (xs := x21) (ys := ([(p_s.drop ((x25).toNat))] : List Str)) gS un23 ty9 rfl (nb rfl) rfl rfl rfl (OwnL.ex gS hf40 hE75) (EncL.cons (c := [.string (bs ((p_s.drop ((x25).toNat))))]) rfl rfl EncL.nil) (Or.inr ⟨_, _, rfl, rfl, hB74.cells (o := 0) (n := 1) rfl⟩) rfl Bl Bl oM oM (fun _ h _ => False.elim h) oM ?_)
   intro A78 c79 w80 row81 hO82 hG83 hrg84
   have hG83z := hG83.size
   refine sA rfl (dn (CW.ret (rr rfl (.cons rfl .nil) ?_)))
   have hM85 : (s_l1Split p_s p_b) = ((x21 ++ ([(p_s.drop ((x25).toNat))] : List Str))) := by simp only [s_l1Split, hL69, cL]
   rw [hM85]
   exact ⟨A78, c79, w.heap.size, w80.heap.size, rfl, hO82, (okL.mk (xs := (x21 ++ ([(p_s.drop ((x25).toNat))] : List Str))) Bl (okE.append hok44 ((okL.mk (nb rfl) (okE.cons (okS.drop o1 _) okE.nil))).2)), oM, (Below.grown (Ex.trans hf41 hE75) hG83 oM (fun k hk => by have := hrg84 k hk; omega))⟩
theorem c_s_l25ReadEntry {A1 : Option Addr} {c1 : Nat} {A2 : Option Addr} {c2 : Nat} {w : World} (p_t : DTable) (pn : Str) (p_key : Str) (h1 : RdS w (Iv 0 w.heap.size) (RF e_Str) 1 A1 p_t.Cols.length c1 p_t.Cols) (h2 : RdS w (Iv 0 w.heap.size) (RF e_Idx) 3 A2 p_t.Idxs.length c2 p_t.Idxs) (o3 : ok_Table p_t) (o4 : okS pn) (o5 : okS p_key) : Cal Tryz.prog 47 #[.agg #[.string (bs (p_t.Name)), .slice A1 p_t.Cols.length c1, .slice A2 p_t.Idxs.length c2], .string (bs (pn)), .string (bs (p_key))] w fun v w' => v = .tuple #[.string (bs ((s_l25ReadEntry p_t pn p_key).1)), .string (bs ((s_l25ReadEntry p_t pn p_key).2.1)), .bool ((s_l25ReadEntry p_t pn p_key).2.2)] ∧ okS ((s_l25ReadEntry p_t pn p_key).1) ∧ okS ((s_l25ReadEntry p_t pn p_key).2.1) ∧ Ex w w' := by
 have hol6 : p_t.Name.length ≤ 1073741824 := o3.1
 have hol7 := o3.2.1.1
 have hol8 := o3.2.2.1
 have hol9 : pn.length ≤ 1073741824 := o4
 have hol10 : p_key.length ≤ 1073741824 := o5
 refine Cal.of func47 rfl ntmps47 rfl (cR (sd rfl (yl_box rfl rfl rfl ?_)))
 intro b11 w12 hs13 hz14 hB15 hE16
 refine sA rfl (sA rfl (sA rfl (dn (cR (sM rfl (sd rfl (yC en79 rfl (oc rfl (oc rfl oz)) (Cal.mono (c_s_l1Split p_key 47 o5) ?_))))))))
 rintro v20 w17 ⟨A18, c18, lo18, hi18, rfl, h18, ho19, hrn22, hE21⟩
 have hE21z := Ex.size hE21
 have hrf23 := rf_l1Split p_key 47
 refine sA rfl (dn (CW.seq (CW.seq (bcase (decide (((s_l1Split p_key 47).length : Int) = 3)) (fun hb24 => ?_) (fun hb24 => ?_)))))
 ·have hb24p := dec_t hb24
  obtain ⟨eb26, eo26, _, eA26, _, ebl26, _, eR26, eC26⟩ := RdS.aD (OwnL.rd gS h18) d_Str (i := 0)
  obtain rfl := eR26
  have eC26 : Cells w17 eb26 (eo26 + 0 * 1) [.string (bs (((s_l1Split p_key 47).getD 0 d_Str)))] := eC26
  have hol28 : p_t.Name.length ≤ 1073741824 := o3.1
  have hol29 : p_t.Name.length ≤ 1073741824 := o3.1
  have hol30 : pn.length ≤ 1073741824 := o4
  refine drI 12 [.slice A18 ((s_l1Split p_key 47).length) c18, .int .i64 (((s_l1Split p_key 47).length : Int)), .bool (!(decide (((s_l1Split p_key 47).length : Int) = 3))), .bool (!(decide (((s_l1Split p_key 47).length : Int) = 3))), .slice A18 ((s_l1Split p_key 47).length) c18, .pointer (some ⟨eb26, eo26 + 0 * 1, none⟩), .string (bs (((s_l1Split p_key 47).getD 0 d_Str))), .pointer (some ⟨b11, 0 + 0, none⟩), .string (bs (p_t.Name)), .string (bs (p_t.Name ++ ([46] : Str))), .string (bs (pn)), .string (bs ((p_t.Name ++ ([46] : Str)) ++ pn))] Tryz.follows rfl ⟨?_, ?_, ?_, ?_, ?_, ?_, ?_, ?_, ?_, ?_, ?_, ?_, trivial⟩ ?_
  ·exact oI rfl fun h => yM rfl (h.old 9 _ rfl rfl) kI
  ·exact oI rfl fun h => yL un23 rfl (h.dt 0 12 rfl rfl rfl) kI
  ·exact oI rfl fun h => yl_neq rfl (h.dt 1 13 rfl rfl rfl) rfl kI
  ·exact oI rfl fun h => yM rfl (h.dt 2 14 rfl rfl rfl) kI
  ·exact oW rfl rfl rfl rfl (not_t hb24) fun h => yM rfl (h.old 9 _ rfl rfl) kI
  ·intro L57 w58 hi59
   have hE60 := hi59.ex
   have hE60z := Ex.size hE60
   exact OpR.want rfl rfl (hi59.dt 3 15 rfl rfl rfl) (not_t hb24) (Yl.sameI (yl_ixN un23 ty9 rfl (hi59.dt 4 16 rfl rfl rfl) rfl eA26 kI))
  ·exact oW rfl rfl rfl rfl (not_t hb24) fun h => yl_load1 ty9 rfl (h.dt 5 17 rfl rfl rfl) ((Cells.ex eC26 h.ex) 0 _ rfl) kI
  ·exact oW rfl rfl rfl rfl (not_t hb24) fun h => yl_fieldAddr fd26_0 rfl (h.old 3 _ rfl rfl) kI
  ·exact oW rfl rfl rfl rfl (not_t hb24) fun h => yl_load1 ty9 rfl (h.dt 7 19 rfl rfl rfl) (((Box.ex (Box.ex hB15 hE21) h.ex).cell 0).trans rfl) kI
  ·intro L83 w84 hi85
   have hE86 := hi85.ex
   have hE86z := Ex.size hE86
   have hol89 : p_t.Name.length ≤ 1073741824 := o3.1
   exact OpR.want rfl rfl (hi85.dt 3 15 rfl rfl rfl) (not_t hb24) (Yl.sameI (yl_sadd (a := p_t.Name) (b := ([46] : Str)) rfl (hi85.dt 8 20 rfl rfl rfl) rfl Bl kI))
  ·exact oW rfl rfl rfl rfl (not_t hb24) fun h => yM rfl (h.old 1 _ rfl rfl) kI
  ·intro L96 w97 hi98
   have hE99 := hi98.ex
   have hE99z := Ex.size hE99
   have hol103 : p_t.Name.length ≤ 1073741824 := o3.1
   have hol104 : pn.length ≤ 1073741824 := o4
   exact OpR.want rfl rfl (hi98.dt 3 15 rfl rfl rfl) (not_t hb24) (Yl.sameI (yl_sadd (a := (p_t.Name ++ ([46] : Str))) (b := pn) rfl (hi98.dt 9 21 rfl rfl rfl) (hi98.dt 10 22 rfl rfl rfl) Bl kI))
  ·intro fl108 fh109 L105 w106 hp107
   have hE110 := hp107.ex
   have hE110z := Ex.size hE110
   have hx111 := hp107.old 9 _ rfl rfl
   have hx112 := hp107.nt 3 15 rfl rfl rfl
   refine sy rfl hx112 (not_t hb24) (yl_sneq (a := ((s_l1Split p_key 47).getD 0 d_Str)) (b := ((p_t.Name ++ ([46] : Str)) ++ pn)) rfl (hp107.nt 6 18 rfl rfl rfl) (hp107.nt 11 23 rfl rfl rfl) (sd rfl (yl_pick_f rfl hx112 (not_t hb24) rfl (sM rfl (bcase (((s_l1Split p_key 47).getD 0 d_Str) == ((p_t.Name ++ ([46] : Str)) ++ pn)) (fun hb115 => ?_) (fun hb115 => ?_))))))
   ·refine sy rfl rfl (not_t hb115) (yM rfl hx111 ?_)
    have q117 := OwnL.ex gS h18 hE110
    obtain ⟨eb118, eo118, _, eA118, _, ebl118, _, eR118, eC118⟩ := RdS.aD (OwnL.rd gS q117) d_Str (i := 1)
    obtain rfl := eR118
    have eC118 : Cells w106 eb118 (eo118 + 1 * 1) [.string (bs (((s_l1Split p_key 47).getD 1 d_Str)))] := eC118
    refine sy rfl rfl (not_t hb115) (yl_ixN un23 ty9 rfl rfl rfl eA118 (sy rfl rfl (not_t hb115) (yl_load1 ty9 rfl rfl (eC118 0 _ rfl) (sy rfl rfl (not_t hb115) (yC en41 rfl (oc rfl oz) (Cal.mono (c_s_l25Field ((s_l1Split p_key 47).getD 1 d_Str) (okS_l1Split o5 _ _)) ?_))))))
    rintro v120 w119 ⟨rfl, hE121⟩
    have hE121z := Ex.size hE121
    have y0 := Ex.trans (Ex.trans (Ex.trans (Ex.trans (Ex.refl w) hE16) hE21) hE110) hE121
    refine sy rfl rfl (not_t hb115) (yl_not rfl rfl (sd rfl (yl_pick_f rfl rfl (not_t hb115) rfl (sM rfl (bcase (s_l25Field ((s_l1Split p_key 47).getD 1 d_Str)) (fun hb122 => ?_) (fun hb122 => ?_))))))
    ·refine sy rfl rfl (not_t hb122) (yM rfl hx111 ?_)
     obtain ⟨eb125, eo125, _, eA125, _, ebl125, _, eR125, eC125⟩ := RdS.atD (OwnL.rd gS (OwnL.ex gS q117 hE121)) d_Str (i := 2) (by first | omega | assumption)
     obtain rfl := eR125
     have eC125 : Cells w119 eb125 (eo125 + 2 * 1) [.string (bs (((s_l1Split p_key 47).getD 2 d_Str)))] := eC125
     refine sy rfl rfl (not_t hb122) (yl_ixN un23 ty9 rfl rfl rfl eA125 (sy rfl rfl (not_t hb122) (yl_load1 ty9 rfl rfl (eC125 0 _ rfl) (sy rfl rfl (not_t hb122) (yC en41 rfl (oc rfl oz) (Cal.mono (c_s_l25Field ((s_l1Split p_key 47).getD 2 d_Str) (okS_l1Split o5 _ _)) ?_))))))
     rintro v127 w126 ⟨rfl, hE128⟩
     have hE128z := Ex.size hE128
     refine sy rfl rfl (not_t hb122) (yl_not rfl rfl (sd rfl (yl_pick_f rfl rfl (not_t hb122) rfl (dn (CW.sub (sC 9 hx111 (sC 39 rfl (Sub.nil _))) (bcase (s_l25Field ((s_l1Split p_key 47).getD 2 d_Str)) (fun hb129 => ?_) (fun hb129 => ?_)))))))
     ·refine CW.cond_f rfl (not_t hb129) (CW.skip (tn (CW.seq (drI 9 [.slice A18 ((s_l1Split p_key 47).length) c18, .pointer (some ⟨eb118, eo118 + 1 * 1, none⟩), .string (bs (((s_l1Split p_key 47).getD 1 d_Str))), .slice A18 ((s_l1Split p_key 47).length) c18, .pointer (some ⟨eb125, eo125 + 2 * 1, none⟩), .string (bs (((s_l1Split p_key 47).getD 2 d_Str))), .string (bs (((s_l1Split p_key 47).getD 1 d_Str))), .string (bs (((s_l1Split p_key 47).getD 2 d_Str))), .bool (true)] Tryz.follows rfl ⟨?_, ?_, ?_, ?_, ?_, ?_, ?_, ?_, ?_, trivial⟩ ?_))))
      ·exact oI rfl fun h => yM rfl (h.old 9 _ rfl rfl) kI
      ·intro L138 w139 hi140
       have hE141 := hi140.ex
       have hE141z := Ex.size hE141
       exact os rfl ((yl_ixN un23 ty9 rfl (hi140.dt 0 40 rfl rfl rfl) rfl eA118 kI))
      ·exact oI rfl fun h => yl_load1 ty9 rfl (h.dt 1 41 rfl rfl rfl) ((Cells.ex (Cells.ex (Cells.ex eC118 hE121) hE128) h.ex) 0 _ rfl) kI
      ·exact oI rfl fun h => yM rfl (h.old 9 _ rfl rfl) kI
      ·intro L154 w155 hi156
       have hE157 := hi156.ex
       have hE157z := Ex.size hE157
       exact os rfl ((yl_ixN un23 ty9 rfl (hi156.dt 3 43 rfl rfl rfl) rfl eA125 kI))
      ·exact oI rfl fun h => yl_load1 ty9 rfl (h.dt 4 44 rfl rfl rfl) ((Cells.ex (Cells.ex eC125 hE128) h.ex) 0 _ rfl) kI
      ·exact oI rfl fun h => yA rfl (h.dt 2 42 rfl rfl rfl) kI
      ·exact oI rfl fun h => yA rfl (h.dt 5 45 rfl rfl rfl) kI
      ·exact oI rfl fun _ => yA rfl rfl kI
      ·intro fl182 fh183 L179 w180 hp181
       have hE184 := hp181.ex
       have hE184z := Ex.size hE184
       refine dn (CW.sub (sC 6 (hp181.nt 6 6 rfl rfl rfl) (sC 7 (hp181.nt 7 7 rfl rfl rfl) (sC 8 (hp181.nt 8 8 rfl rfl rfl) (Sub.nil _)))) (CW.ret (rr rfl (.cons rfl (.cons rfl (.cons rfl .nil))) ?_)))
       have hM188 : (s_l25ReadEntry p_t pn p_key) = ((((s_l1Split p_key 47).getD 1 d_Str), ((s_l1Split p_key 47).getD 2 d_Str), true)) := by simp only [s_l25ReadEntry, hb24, hb115, hb122, hb129, cL]
       rw [hM188]
       exact ⟨rfl, (okS_l1Split o5 _ _), (okS_l1Split o5 _ _), (Ex.trans (Ex.trans y0 hE128) hE184)⟩
     ·refine CW.cond_t rfl (not_f hb129) (cR (sA rfl (sA rfl (sA rfl (dn (CW.ret ?_))))))
      refine tr (rr rfl (.cons rfl (.cons rfl (.cons rfl .nil))) ?_)
      have hM195 : (s_l25ReadEntry p_t pn p_key) = ((([] : Str), ([] : Str), false)) := by simp only [s_l25ReadEntry, hb24, hb115, hb122, hb129, cL]
      rw [hM195]
      exact ⟨rfl, (okS.lit rfl), (okS.lit rfl), (Ex.trans y0 hE128)⟩
    ·refine sz rfl rfl (not_f hb122) (sz rfl rfl (not_f hb122) (sz rfl rfl (not_f hb122) (sz rfl rfl (not_f hb122) (sz rfl rfl (not_f hb122) (sd rfl (yl_pick_t rfl rfl (not_f hb122) rfl (dn (CW.sub (sC 9 hx111 (sC 39 rfl (Sub.nil _))) ?_))))))))
     refine CW.cond_t rfl rfl (cR (sA rfl (sA rfl (sA rfl (dn (CW.ret ?_))))))
     refine tr (rr rfl (.cons rfl (.cons rfl (.cons rfl .nil))) ?_)
     have hM201 : (s_l25ReadEntry p_t pn p_key) = ((([] : Str), ([] : Str), false)) := by simp only [s_l25ReadEntry, hb24, hb115, hb122, cL]
     rw [hM201]
     exact ⟨rfl, (okS.lit rfl), (okS.lit rfl), y0⟩
   ·refine sz rfl rfl (not_f hb115) (sz rfl rfl (not_f hb115) (sz rfl rfl (not_f hb115) (sz rfl rfl (not_f hb115) (sz rfl rfl (not_f hb115) (sd rfl (yl_pick_t rfl rfl (not_f hb115) rfl (sM rfl (sz rfl rfl rfl (sz rfl rfl rfl ?_)))))))))
    refine sz rfl rfl rfl (sz rfl rfl rfl (sz rfl rfl rfl (sd rfl (yl_pick_t rfl rfl rfl rfl (dn (CW.sub (sC 9 hx111 (sC 39 rfl (Sub.nil _))) (CW.cond_t rfl rfl (CW.seq ?_))))))))
    refine CW.region (sA rfl (sA rfl (sA rfl (dn (CW.ret (tr (rr rfl (.cons rfl (.cons rfl (.cons rfl .nil))) ?_)))))))
    have hM206 : (s_l25ReadEntry p_t pn p_key) = ((([] : Str), ([] : Str), false)) := by simp only [s_l25ReadEntry, hb24, hb115, cL]
    rw [hM206]
    exact ⟨rfl, (okS.lit rfl), (okS.lit rfl), (Ex.trans (Ex.trans (Ex.trans (Ex.refl w) hE16) hE21) hE110)⟩
 ·have hb24p := dec_f hb24
  refine drI 12 [.slice A18 ((s_l1Split p_key 47).length) c18, .int .i64 (((s_l1Split p_key 47).length : Int)), .bool (!(decide (((s_l1Split p_key 47).length : Int) = 3))), .bool (!(decide (((s_l1Split p_key 47).length : Int) = 3))), undef, undef, undef, undef, undef, undef, undef, undef] Tryz.follows rfl ⟨?_, ?_, ?_, ?_, ?_, ?_, ?_, ?_, ?_, ?_, ?_, ?_, trivial⟩ ?_
  ·exact oI rfl fun h => yM rfl (h.old 9 _ rfl rfl) kI
  ·exact oI rfl fun h => yL un23 rfl (h.dt 0 12 rfl rfl rfl) kI
  ·exact oI rfl fun h => yl_neq rfl (h.dt 1 13 rfl rfl rfl) rfl kI
  ·exact oI rfl fun h => yM rfl (h.dt 2 14 rfl rfl rfl) kI
  ·exact oS rfl rfl rfl rfl rfl (not_f hb24)
  ·exact oS rfl rfl rfl rfl rfl (not_f hb24)
  ·exact oS rfl rfl rfl rfl rfl (not_f hb24)
  ·exact oS rfl rfl rfl rfl rfl (not_f hb24)
  ·exact oS rfl rfl rfl rfl rfl (not_f hb24)
  ·exact oS rfl rfl rfl rfl rfl (not_f hb24)
  ·exact oS rfl rfl rfl rfl rfl (not_f hb24)
  ·exact oS rfl rfl rfl rfl rfl (not_f hb24)
  ·intro fl273 fh274 L270 w271 hp272
   have hE275 := hp272.ex
   have hE275z := Ex.size hE275
   have hx277 := hp272.nt 3 15 rfl rfl rfl
   refine sz rfl hx277 (not_f hb24) (sd rfl (yl_pick_t rfl hx277 (not_f hb24) rfl (sM rfl (sz rfl rfl rfl (sz rfl rfl rfl (sz rfl rfl rfl (sz rfl rfl rfl (sz rfl rfl rfl (sd rfl (yl_pick_t rfl rfl rfl rfl ?_))))))))))
   refine sM rfl (sz rfl rfl rfl (sz rfl rfl rfl (sz rfl rfl rfl (sz rfl rfl rfl (sz rfl rfl rfl (sd rfl (yl_pick_t rfl rfl rfl rfl (dn ?_))))))))
   refine CW.sub (sC 9 (hp272.old 9 _ rfl rfl) (sC 39 rfl (Sub.nil _))) (CW.cond_t rfl rfl (cR (sA rfl (sA rfl (sA rfl (dn ?_))))))
   refine CW.ret (tr (rr rfl (.cons rfl (.cons rfl (.cons rfl .nil))) ?_))
   have hM280 : (s_l25ReadEntry p_t pn p_key) = ((([] : Str), ([] : Str), false)) := by simp only [s_l25ReadEntry, hb24, cL]
   rw [hM280]
   exact ⟨rfl, (okS.lit rfl), (okS.lit rfl), (Ex.trans (Ex.trans (Ex.trans (Ex.refl w) hE16) hE21) hE275)⟩
theorem c_s_ReadIdxKey {A1 : Option Addr} {c1 : Nat} {A2 : Option Addr} {c2 : Nat} {w : World} (p_t : DTable) (pn : Str) (p_key : Str) (h1 : RdS w (Iv 0 w.heap.size) (RF e_Str) 1 A1 p_t.Cols.length c1 p_t.Cols) (h2 : RdS w (Iv 0 w.heap.size) (RF e_Idx) 3 A2 p_t.Idxs.length c2 p_t.Idxs) (o3 : ok_Table p_t) (o4 : okS pn) (o5 : okS p_key) : Cal Tryz.prog 23 #[.agg #[.string (bs (p_t.Name)), .slice A1 p_t.Cols.length c1, .slice A2 p_t.Idxs.length c2], .string (bs (pn)), .string (bs (p_key))] w fun v w' => v = .tuple #[.string (bs ((s_ReadIdxKey p_t pn p_key).1)), .string (bs ((s_ReadIdxKey p_t pn p_key).2.1)), .bool ((s_ReadIdxKey p_t pn p_key).2.2)] ∧ okS ((s_ReadIdxKey p_t pn p_key).1) ∧ okS ((s_ReadIdxKey p_t pn p_key).2.1) ∧ Ex w w' := by
 have hol6 : p_t.Name.length ≤ 1073741824 := o3.1
 have hol7 := o3.2.1.1
 have hol8 := o3.2.2.1
 have hol9 : pn.length ≤ 1073741824 := o4
 have hol10 : p_key.length ≤ 1073741824 := o5
 refine Cal.of func23 rfl ntmps23 rfl (cR (sd rfl (yl_box rfl rfl rfl ?_)))
 intro b11 w12 hs13 hz14 hB15 hE16
 refine sA rfl (sA rfl (sA rfl (dn (cR (sd rfl (yl_loadN ty26 rfl rfl (hB15.cells (n := 3) rfl) rfl (sM rfl ?_)))))))
 refine sM rfl ?_
 have q17 := RdS.ex gS h1 hE16
 have q18 := RdS.ex gI h2 hE16
 refine sd rfl (yC en47 rfl (oc rfl (oc rfl (oc rfl oz))) (Cal.mono (c_s_l25ReadEntry p_t pn p_key (RdS.up q17 gS) (RdS.up q18 gI) o3 o4 o5) ?_))
 rintro v22 w19 ⟨rfl, ho20, ho21, hE23⟩
 have hE23z := Ex.size hE23
 refine sM rfl (sd rfl (yl_extract rfl rfl rfl (sd rfl (yl_extract rfl rfl rfl (sd rfl (yl_extract rfl rfl rfl (sA rfl (sA rfl (sA rfl (dn ?_))))))))))
 refine CW.seq (cR (sd rfl (yl_loadN ty26 rfl rfl ((Box.ex hB15 hE23).cells (n := 3) rfl) rfl (sM rfl (sd rfl (yC en18 rfl (oc rfl (oc rfl oz)) (Cal.mono (c_s_IdxAt p_t pn (RdS.up (RdS.ex gS q17 hE23) gS) (RdS.up (RdS.ex gI q18 hE23) gI) o3 o4) ?_)))))))
 rintro v29 w27 ⟨rfl, ho28, hE30⟩
 have hE30z := Ex.size hE30
 refine sM rfl (sd rfl (yl_extract rfl rfl rfl (sd rfl (yl_extract rfl rfl rfl (sd rfl (yB ty54 (cs := [.string (bs (([] : Str))), .int .i64 (0), .int .i64 (0)]) rfl rfl ?_))))))
 intro b31 w32 hs33 hz34 hB35 hE36
 refine SeqR.u rfl rfl (yl_store (vs := [.string (bs ((s_IdxAt p_t pn).1.Name)), .int .i64 ((s_IdxAt p_t pn).1.Col), .int .i64 ((s_IdxAt p_t pn).1.Stage)]) ty54 rfl rfl rfl rfl rfl rfl hB35 (nb rfl) ?_)
 intro w37 hB38 hO39
 have hB38 : Box w37 b31 54 [.string (bs ((s_IdxAt p_t pn).1.Name)), .int .i64 ((s_IdxAt p_t pn).1.Col), .int .i64 ((s_IdxAt p_t pn).1.Stage)] := hB38
 have hO39z := hO39.size
 refine sA rfl (dn (cR (sM rfl (sd rfl (yl_not rfl rfl (sM rfl (bcase ((s_IdxAt p_t pn).2) (fun hb40 => ?_) (fun hb40 => ?_))))))))
 ·obtain ⟨hb40p0, hb40p1, hb40p2, hb40p3⟩ := f_s_IdxAt hb40
  refine sy rfl rfl (not_t hb40) (yM rfl rfl (sy rfl rfl (not_t hb40) (yl_not rfl rfl (sd rfl (yl_pick_f rfl rfl (not_t hb40) rfl (dn (bcase ((s_l25ReadEntry p_t pn p_key).2.2) (fun hb41 => ?_) (fun hb41 => ?_))))))))
  ·refine CW.cond_f rfl (not_t hb41) (CW.skip (tn (cR (sM rfl (sM rfl (sA rfl (sA rfl ?_)))))))
   refine sA rfl (dn (CW.ret (rr rfl (.cons rfl (.cons rfl (.cons rfl .nil))) ?_)))
   have hM42 : (s_ReadIdxKey p_t pn p_key) = (((s_l25ReadEntry p_t pn p_key).1, (s_l25ReadEntry p_t pn p_key).2.1, true)) := by simp only [s_ReadIdxKey, hb40, hb41, cL]
   rw [hM42]
   exact ⟨rfl, ho20, ho21, (Below.only (Ex.trans (Ex.trans (Ex.trans (Ex.trans (Ex.refl w) hE16) hE23) hE30) hE36) hO39 oM)⟩
  ·refine CW.cond_t rfl (not_f hb41) (cR (sA rfl (sA rfl (sA rfl (dn (CW.ret ?_))))))
   refine tr (rr rfl (.cons rfl (.cons rfl (.cons rfl .nil))) ?_)
   have hM48 : (s_ReadIdxKey p_t pn p_key) = ((([] : Str), ([] : Str), false)) := by simp only [s_ReadIdxKey, hb40, hb41, cL]
   rw [hM48]
   exact ⟨rfl, (okS.lit rfl), (okS.lit rfl), (Below.only (Ex.trans (Ex.trans (Ex.trans (Ex.trans (Ex.refl w) hE16) hE23) hE30) hE36) hO39 oM)⟩
 ·refine sz rfl rfl (not_f hb40) (sz rfl rfl (not_f hb40) (sd rfl (yl_pick_t rfl rfl (not_f hb40) rfl (dn (CW.cond_t rfl rfl (cR (sA rfl ?_)))))))
  refine sA rfl (sA rfl (dn (CW.ret (tr (rr rfl (.cons rfl (.cons rfl (.cons rfl .nil))) ?_)))))
  have hM54 : (s_ReadIdxKey p_t pn p_key) = ((([] : Str), ([] : Str), false)) := by simp only [s_ReadIdxKey, hb40, cL]
  rw [hM54]
  exact ⟨rfl, (okS.lit rfl), (okS.lit rfl), (Below.only (Ex.trans (Ex.trans (Ex.trans (Ex.trans (Ex.refl w) hE16) hE23) hE30) hE36) hO39 oM)⟩
theorem c_s_ClearOps {A1 : Option Addr} {c1 : Nat} {A2 : Option Addr} {c2 : Nat} {w : World} (p_t : DTable) (pn : Str) (p_key : Str) (h1 : RdS w (Iv 0 w.heap.size) (RF e_Str) 1 A1 p_t.Cols.length c1 p_t.Cols) (h2 : RdS w (Iv 0 w.heap.size) (RF e_Idx) 3 A2 p_t.Idxs.length c2 p_t.Idxs) (o3 : ok_Table p_t) (o4 : okS pn) (o5 : okS p_key) : Cal Tryz.prog 9 #[.agg #[.string (bs (p_t.Name)), .slice A1 p_t.Cols.length c1, .slice A2 p_t.Idxs.length c2], .string (bs (pn)), .string (bs (p_key))] w fun v w' => ∃ A_1 c_1 lo_1 hi_1, v = .tuple #[.slice A_1 (((s_ClearOps p_t pn p_key).1).length) c_1, .bool ((s_ClearOps p_t pn p_key).2)] ∧ OwnL w' lo_1 hi_1 61 4 (RF e_Op) A_1 (((s_ClearOps p_t pn p_key).1).length) c_1 ((s_ClearOps p_t pn p_key).1) ∧ (okL ok_Op) ((s_ClearOps p_t pn p_key).1) ∧ (w.heap.size ≤ lo_1 ∧ lo_1 ≤ hi_1 ∧ hi_1 ≤ w'.heap.size) ∧ Ex w w' := by
 have hol6 : p_t.Name.length ≤ 1073741824 := o3.1
 have hol7 := o3.2.1.1
 have hol8 := o3.2.2.1
 have hol9 : pn.length ≤ 1073741824 := o4
 have hol10 : p_key.length ≤ 1073741824 := o5
 refine Cal.of func9 rfl ntmps9 rfl (cR (sd rfl (yl_box rfl rfl rfl ?_)))
 intro b11 w12 hs13 hz14 hB15 hE16
 refine sA rfl (sA rfl (dn (CW.seq (cR (sd rfl (yl_loadN ty26 rfl rfl (hB15.cells (n := 3) rfl) rfl (sM rfl ?_)))))))
 refine sM rfl (sd rfl (yC en23 rfl (oc rfl (oc rfl (oc rfl oz))) (Cal.mono (c_s_ReadIdxKey p_t pn p_key (RdS.up (RdS.ex gS h1 hE16) gS) (RdS.up (RdS.ex gI h2 hE16) gI) o3 o4 o5) ?_)))
 rintro v22 w19 ⟨rfl, ho20, ho21, hE23⟩
 have hE23z := Ex.size hE23
 refine sM rfl (sd rfl (yl_extract rfl rfl rfl (sd rfl (yl_extract rfl rfl rfl (sd rfl (yl_extract rfl rfl rfl (sA rfl (sA rfl (sA rfl (dn ?_))))))))))
 refine cR (sM rfl (sd rfl (yl_not rfl rfl (dn (bcase ((s_ReadIdxKey p_t pn p_key).2.2) (fun hb24 => ?_) (fun hb24 => ?_))))))
 ·refine CW.cond_f rfl (not_t hb24) (CW.skip (tn (cR (sM rfl (sd rfl (yl_build (cs := [.int .i64 (3), .string (bs (p_key)), .string (bs (([] : Str))), .int .i64 (0)]) rfl (oc rfl (oc rfl oz)) (by kernel_rfl) (sd rfl (yl_buildSlice (cs := [.int .i64 (3), .string (bs (p_key)), .string (bs (([] : Str))), .int .i64 (0)]) un31 ty61 (by decide) rfl (oc rfl oz) (by kernel_rfl) ?_))))))))
  intro b25 w26 hs27 hz28 hB29 hE30
  have hO31 : OwnL w26 b25 (b25 + 1) 61 4 (RF e_Op) (some ⟨b25, 0, none⟩) 1 1 ([(⟨3, p_key, ([] : Str), 0⟩ : DOp)] : List DOp) := OwnL.of_box (S := fun _ => False) hB29 (Nat.le_refl _) (Nat.lt_succ_self _) (EncL.cons (c := [.int .i64 (3), .string (bs (p_key)), .string (bs (([] : Str))), .int .i64 (0)]) rfl rfl EncL.nil) (nb rfl) (fun h => h) (fun _ h => False.elim h)
  refine sA rfl (sA rfl (dn (CW.ret (rr rfl (.cons rfl (.cons rfl .nil)) ?_))))
  have hM32 : (s_ClearOps p_t pn p_key) = ((([(⟨3, p_key, ([] : Str), 0⟩ : DOp)] : List DOp), true)) := by simp only [s_ClearOps, hb24, cL]
  have hfx33 := (hO31).1
  rw [hM32]
  exact ⟨(some ⟨b25, 0, none⟩), 1, b25, (b25 + 1), (by first | rfl | (simp only [List.length_replicate, List.length_set]; done) | (simp only [List.length_replicate, List.length_set]; rfl) | rw [hfx33]), (OwnL.fix hO31), (okL.mk (nb rfl) (okE.cons ⟨o5, (okS.lit rfl)⟩ okE.nil)), oM, (Ex.trans (Ex.trans (Ex.trans (Ex.refl w) hE16) hE23) hE30)⟩
 ·refine CW.cond_t rfl (not_f hb24) (cR (sA rfl (sA rfl (dn (CW.ret (tr ?_))))))
  refine rr rfl (.cons rfl (.cons rfl .nil)) ?_
  have hM37 : (s_ClearOps p_t pn p_key) = ((([] : List DOp), false)) := by simp only [s_ClearOps, hb24, cL]
  rw [hM37]
  exact ⟨none, 0, w19.heap.size, w19.heap.size, rfl, (OwnL.nil _ _ _ _ _ _), (okL.nil _), oM, (Ex.trans (Ex.trans (Ex.refl w) hE16) hE23)⟩
theorem c_l_qSameOps {A1 : Option Addr} {c1 : Nat} {A3 : Option Addr} {c3 : Nat} {w : World} (p_a : List DOp) (p_b : List DOp) (h1 : RdS w (Iv 0 w.heap.size) (RF e_Op) 4 A1 p_a.length c1 p_a) (h3 : RdS w (Iv 0 w.heap.size) (RF e_Op) 4 A3 p_b.length c3 p_b) (o2 : (okL ok_Op) p_a) (o4 : (okL ok_Op) p_b) : Cal Tryz.prog 10 #[.slice A1 p_a.length c1, .slice A3 p_b.length c3] w fun v w' => v = .bool ((l_qSameOps p_a p_b)) ∧ Ex w w' := by
 have hol5 := o2.1
 have hol6 := o4.1
 refine Cal.of func10 rfl ntmps10 rfl (cR (sA rfl (dn (CW.seq (cR ?_)))))
 refine sM rfl (sd rfl (yL un31 rfl rfl (sM rfl (sd rfl (yL un31 rfl rfl (sd rfl (yl_neq rfl rfl rfl (dn (bcase (decide ((p_a.length : Int) = (p_b.length : Int))) (fun hb7 => ?_) (fun hb7 => ?_))))))))))
 ·have hb7p := dec_t hb7
  refine CW.cond_f rfl (not_t hb7) (CW.skip (tn (CW.seq (cR (sM rfl (sd rfl (yL un31 rfl rfl (sM rfl ?_))))))))
  refine dn (CW.block (CW.loop (fun m9 L10 w11 => ∃ (k8 : Nat), m9 = p_a.length - k8 ∧ k8 ≤ p_a.length ∧ w.heap.size ≤ w11.heap.size ∧ lkp L10 0 = some (.slice A1 p_a.length c1) ∧ lkp L10 1 = some (.slice A3 p_b.length c3) ∧ lkp L10 12 = some (.int .i64 ((p_a.length : Int))) ∧ lkp L10 13 = some (.int .i64 ((k8 : Int))) ∧ RdS w11 (Iv 0 w.heap.size) (RF e_Op) 4 A1 p_a.length c1 p_a ∧ RdS w11 (Iv 0 w.heap.size) (RF e_Op) 4 A3 p_b.length c3 p_b ∧ Ex w w11 ∧ loopM (B_l_qSameOps_0 p_a p_b) (p_a.length - k8) k8 () = loopM (B_l_qSameOps_0 p_a p_b) (p_a.length - 0) 0 ()) (p_a.length - 0) ?_ ?_))
  ·exact ⟨0, rfl, oM, Nat.le_refl _, rfl, rfl, rfl, rfl, h1, h3, (Ex.refl w), rfl⟩
  ·rintro m12 L13 w14 ⟨k8, rfl, hk15, hsz17, hl18, hl19, hl20, hl21, hf22, hf23, hf24, hI16⟩
   refine CW.sub (Sub.cons hl18 (Sub.cons hl19 (Sub.cons hl20 (Sub.cons hl21 (Sub.nil _))))) ?_
   have hf24z := Ex.size hf24
   have hbg25 := RdS.big hf22
   rcases Nat.lt_or_ge k8 p_a.length with hlt26 | hlt26
   ·refine cR (sd rfl (yl_lss rfl rfl rfl (dn (CW.seq (CW.cond_t rfl (lt_t hlt26) (CW.skip (tn ?_)))))))
    refine CW.seq (CW.block (cR (sM rfl (sA rfl (dn (CW.seq ?_))))))
    obtain ⟨eb27, eo27, _, eA27, _, ebl27, _, eR27, eC27⟩ := RdS.aD hf22 d_Op (i := k8)
    obtain rfl := eR27
    have eC27 : Cells w14 eb27 (eo27 + k8 * 4) [.int .i64 ((p_a.getD k8 d_Op).Kind), .string (bs ((p_a.getD k8 d_Op).Key)), .string (bs ((p_a.getD k8 d_Op).Val)), .int .i64 ((p_a.getD k8 d_Op).By)] := eC27
    obtain ⟨eb28, eo28, _, eA28, _, ebl28, _, eR28, eC28⟩ := RdS.aD hf23 d_Op (i := k8)
    obtain rfl := eR28
    have eC28 : Cells w14 eb28 (eo28 + k8 * 4) [.int .i64 ((p_b.getD k8 d_Op).Kind), .string (bs ((p_b.getD k8 d_Op).Key)), .string (bs ((p_b.getD k8 d_Op).Val)), .int .i64 ((p_b.getD k8 d_Op).By)] := eC28
    refine drI 9 [.slice A1 p_a.length c1, .int .i64 ((k8 : Int)), .pointer (some ⟨eb27, eo27 + k8 * 4, none⟩), .agg #[.int .i64 ((p_a.getD k8 d_Op).Kind), .string (bs ((p_a.getD k8 d_Op).Key)), .string (bs ((p_a.getD k8 d_Op).Val)), .int .i64 ((p_a.getD k8 d_Op).By)], .slice A3 p_b.length c3, .int .i64 ((k8 : Int)), .pointer (some ⟨eb28, eo28 + k8 * 4, none⟩), .agg #[.int .i64 ((p_b.getD k8 d_Op).Kind), .string (bs ((p_b.getD k8 d_Op).Key)), .string (bs ((p_b.getD k8 d_Op).Val)), .int .i64 ((p_b.getD k8 d_Op).By)], .bool (!((decide (((p_a.getD k8 d_Op).Kind) = ((p_b.getD k8 d_Op).Kind))) && ((((p_a.getD k8 d_Op).Key) == ((p_b.getD k8 d_Op).Key)) && ((((p_a.getD k8 d_Op).Val) == ((p_b.getD k8 d_Op).Val)) && (decide (((p_a.getD k8 d_Op).By) = ((p_b.getD k8 d_Op).By)))))))] Tryz.follows rfl ⟨?_, ?_, ?_, ?_, ?_, ?_, ?_, ?_, ?_, trivial⟩ ?_
    ·exact oI rfl fun h => yM rfl (h.old 0 _ rfl rfl) kI
    ·exact oI rfl fun h => yM rfl (h.old 5 _ rfl rfl) kI
    ·intro L39 w40 hi41
     have hE42 := hi41.ex
     have hE42z := Ex.size hE42
     exact os rfl ((yl_ixN un31 ty61 rfl (hi41.dt 0 16 rfl rfl rfl) (hi41.dt 1 17 rfl rfl rfl) eA27 kI))
    ·exact oI rfl fun h => yl_loadN ty61 rfl (h.dt 2 18 rfl rfl rfl) (Cells.ex eC27 h.ex) rfl kI
    ·exact oI rfl fun h => yM rfl (h.old 1 _ rfl rfl) kI
    ·exact oI rfl fun h => yM rfl (h.old 5 _ rfl rfl) kI
    ·intro L61 w62 hi63
     have hE64 := hi63.ex
     have hE64z := Ex.size hE64
     exact os rfl ((yl_ixN un31 ty61 rfl (hi63.dt 4 20 rfl rfl rfl) (hi63.dt 5 21 rfl rfl rfl) eA28 kI))
    ·exact oI rfl fun h => yl_loadN ty61 rfl (h.dt 6 22 rfl rfl rfl) (Cells.ex eC28 h.ex) rfl kI
    ·exact oI rfl fun h => yl_aneq (xs := [.int .i64 ((p_a.getD k8 d_Op).Kind), .string (bs ((p_a.getD k8 d_Op).Key)), .string (bs ((p_a.getD k8 d_Op).Val)), .int .i64 ((p_a.getD k8 d_Op).By)]) (ys := [.int .i64 ((p_b.getD k8 d_Op).Kind), .string (bs ((p_b.getD k8 d_Op).Key)), .string (bs ((p_b.getD k8 d_Op).Val)), .int .i64 ((p_b.getD k8 d_Op).By)]) Tryz.ae61 rfl (h.dt 3 19 rfl rfl rfl) (h.dt 7 23 rfl rfl rfl) kI
    ·intro fl82 fh83 L79 w80 hp81
     have hE84 := hp81.ex
     have hE84z := Ex.size hE84
     refine dn (CW.sub (sC 0 (hp81.old 0 _ rfl rfl) (sC 1 (hp81.old 1 _ rfl rfl) (sC 12 (hp81.old 12 _ rfl rfl) (sC 13 (hp81.old 13 _ rfl rfl) (sC 24 (hp81.nt 8 24 rfl rfl rfl) (Sub.nil _)))))) (bcase ((decide (((p_a.getD k8 d_Op).Kind) = ((p_b.getD k8 d_Op).Kind))) && ((((p_a.getD k8 d_Op).Key) == ((p_b.getD k8 d_Op).Key)) && ((((p_a.getD k8 d_Op).Val) == ((p_b.getD k8 d_Op).Val)) && (decide (((p_a.getD k8 d_Op).By) = ((p_b.getD k8 d_Op).By)))))) (fun hb90 => ?_) (fun hb90 => ?_)))
     ·refine CW.cond_f rfl (not_t hb90) (CW.skip (bn (tn (CW.region (sd rfl (yl_inc rfl rfl rfl oM (sM rfl (dn ?_))))))))
      have hB91 : B_l_qSameOps_0 p_a p_b k8 () = .cont () := by simp only [B_l_qSameOps_0, hb7, hb90, cL]
      exact ⟨p_a.length - (k8 + 1), oM, k8 + 1, rfl, hlt26, oM, rfl, rfl, rfl, rfl, (RdS.ex good_Op hf22 hE84), (RdS.ex good_Op hf23 hE84), (Ex.trans hf24 hE84), (loopM.cont hlt26 hB91).symm.trans hI16⟩
     ·refine CW.cond_t rfl (not_f hb90) (cR (sA rfl (dn (CW.ret (br (tr ?_))))))
      refine tr ?_
      have hB96 : B_l_qSameOps_0 p_a p_b k8 () = .ret false := by simp only [B_l_qSameOps_0, hb7, hb90, cL]
      have hL95 : loopM (B_l_qSameOps_0 p_a p_b) (p_a.length - 0) 0 () = .ret false := hI16.symm.trans (loopM.ret hlt26 hB96)
      refine br (tr (rr rfl (.cons rfl .nil) ?_))
      have hM97 : (l_qSameOps p_a p_b) = (false) := by simp only [l_qSameOps, hb7, hb90, hL95, cL]
      rw [hM97]
      exact ⟨rfl, (Ex.trans hf24 hE84)⟩
   ·refine cR (sd rfl (yl_lss rfl rfl rfl (dn (CW.seq (CW.cond_f rfl (lt_f hlt26) (CW.exit (tx ?_)))))))
    refine tx ?_
    have hL99 : loopM (B_l_qSameOps_0 p_a p_b) (p_a.length - 0) 0 () = .done () := hI16.symm.trans (loopM.stop hlt26)
    refine bx (tn (cR (sA rfl (dn (CW.ret (rr rfl (.cons rfl .nil) ?_))))))
    have hM100 : (l_qSameOps p_a p_b) = (true) := by simp only [l_qSameOps, hb7, hL99, cL]
    rw [hM100]
    exact ⟨rfl, hf24⟩
 ·have hb7p := dec_f hb7
  refine CW.cond_t rfl (not_f hb7) (cR (sA rfl (dn (CW.ret (tr (rr rfl (.cons rfl .nil) ?_))))))
  have hM101 : (l_qSameOps p_a p_b) = (false) := by simp only [l_qSameOps, hb7, cL]
  rw [hM101]
  exact ⟨rfl, (Ex.refl w)⟩
theorem c_s_GoodRow {A1 : Option Addr} {c1 : Nat} {A2 : Option Addr} {c2 : Nat} {A4 : Option Addr} {c4 : Nat} {w : World} (p_t : DTable) (p_r : DRow) (h1 : RdS w (Iv 0 w.heap.size) (RF e_Str) 1 A1 p_t.Cols.length c1 p_t.Cols) (h2 : RdS w (Iv 0 w.heap.size) (RF e_Idx) 3 A2 p_t.Idxs.length c2 p_t.Idxs) (h4 : RdS w (Iv 0 w.heap.size) (RF e_Str) 1 A4 p_r.Vals.length c4 p_r.Vals) (o3 : ok_Table p_t) (o5 : ok_Row p_r) : Cal Tryz.prog 24 #[.agg #[.string (bs (p_t.Name)), .slice A1 p_t.Cols.length c1, .slice A2 p_t.Idxs.length c2], .agg #[.slice A4 p_r.Vals.length c4]] w fun v w' => v = .bool ((s_GoodRow p_t p_r)) ∧ Ex w w' := by
 refine Cal.of func24 rfl ntmps24 rfl (cR (sd rfl (yl_box rfl rfl rfl ?_)))
 intro b10 w11 hs12 hz13 hB14 hE15
 refine sd rfl (yl_box rfl rfl rfl ?_)
 intro b16 w17 hs18 hz19 hB20 hE21
 refine sA rfl (dn (cR ?_))
 have q22 := Box.ex hB14 hE21
 refine sd rfl (yl_loadN ty26 rfl rfl (q22.cells (n := 3) rfl) rfl ?_)
 have q24 := RdS.ex gS (RdS.ex gS h1 hE15) hE21
 have q26 := RdS.ex gI (RdS.ex gI h2 hE15) hE21
 refine sd rfl (yC en40 rfl (oc rfl oz) (Cal.mono (c_s_GoodTable p_t (RdS.up q24 gS) (RdS.up q26 gI) o3) ?_))
 rintro v28 w27 ⟨rfl, hE29⟩
 refine sM rfl (bcase (s_GoodTable p_t) (fun hb30 => ?_) (fun hb30 => ?_))
 ·have hb30p := f_s_GoodTable hb30
  refine sy rfl rfl hb30 (yl_loadN ty26 rfl rfl ((Box.ex q22 hE29).cells (n := 3) rfl) rfl (sy rfl rfl hb30 (yl_loadN ty28 rfl rfl ((Box.ex hB20 hE29).cells (n := 1) rfl) rfl (sy rfl rfl hb30 (yC en19 rfl (oc rfl (oc rfl oz)) (Cal.mono (c_s_l25Good p_t p_r (RdS.up (RdS.ex gS q24 hE29) gS) (RdS.up (RdS.ex gI q26 hE29) gI) (RdS.up (RdS.ex gS (RdS.ex gS (RdS.ex gS h4 hE15) hE21) hE29) gS) o3 o5) ?_))))))
  rintro v39 w38 ⟨rfl, hE40⟩
  refine sd rfl (yl_pick_t rfl rfl hb30 rfl (sA rfl (dn (CW.ret (rr rfl (.cons rfl .nil) ?_)))))
  have hM41 : (s_GoodRow p_t p_r) = ((s_l25Good p_t p_r)) := by simp only [s_GoodRow, hb30, cL]
  rw [hM41]
  exact ⟨rfl, (Ex.trans (Ex.trans (Ex.trans (Ex.trans (Ex.refl w) hE15) hE21) hE29) hE40)⟩
 ·refine sz rfl rfl hb30 (sz rfl rfl hb30 (sz rfl rfl hb30 (sd rfl (yl_pick_f rfl rfl hb30 rfl (sA rfl (dn (CW.ret (rr rfl (.cons rfl .nil) ?_))))))))
  have hM46 : (s_GoodRow p_t p_r) = (false) := by simp only [s_GoodRow, hb30, cL]
  rw [hM46]
  exact ⟨rfl, (Ex.trans (Ex.trans (Ex.trans (Ex.refl w) hE15) hE21) hE29)⟩
theorem c_s_RowWrite {A1 : Option Addr} {c1 : Nat} {A2 : Option Addr} {c2 : Nat} {A4 : Option Addr} {c4 : Nat} {w : World} (p_t : DTable) (p_r : DRow) (h1 : RdS w (Iv 0 w.heap.size) (RF e_Str) 1 A1 p_t.Cols.length c1 p_t.Cols) (h2 : RdS w (Iv 0 w.heap.size) (RF e_Idx) 3 A2 p_t.Idxs.length c2 p_t.Idxs) (h4 : RdS w (Iv 0 w.heap.size) (RF e_Str) 1 A4 p_r.Vals.length c4 p_r.Vals) (o3 : ok_Table p_t) (o5 : ok_Row p_r) : Cal Tryz.prog 11 #[.agg #[.string (bs (p_t.Name)), .slice A1 p_t.Cols.length c1, .slice A2 p_t.Idxs.length c2], .agg #[.slice A4 p_r.Vals.length c4]] w fun v w' => v = .tuple #[.agg #[.string (bs ((s_RowWrite p_t p_r).1.Key)), .string (bs ((s_RowWrite p_t p_r).1.Val)), .bool ((s_RowWrite p_t p_r).1.Gone)], .bool ((s_RowWrite p_t p_r).2)] ∧ ok_Write ((s_RowWrite p_t p_r).1) ∧ Ex w w' := by
 have hol6 : p_t.Name.length ≤ 1073741824 := o3.1
 have hol7 := o3.2.1.1
 have hol8 := o3.2.2.1
 have hol9 := o5.1
 refine Cal.of func11 rfl ntmps11 rfl (cR (sd rfl (yl_box rfl rfl rfl ?_)))
 intro b10 w11 hs12 hz13 hB14 hE15
 refine sd rfl (yl_box rfl rfl rfl ?_)
 intro b16 w17 hs18 hz19 hB20 hE21
 refine sd rfl (yB ty39 (cs := [.string (bs (([] : Str))), .string (bs (([] : Str))), .bool (false)]) rfl rfl ?_)
 intro b22 w23 hs24 hz25 hB26 hE27
 refine sA rfl (dn (CW.seq (cR ?_)))
 have q29 := Box.ex (Box.ex hB14 hE21) hE27
 refine sd rfl (yl_loadN ty26 rfl rfl (q29.cells (n := 3) rfl) rfl ?_)
 have q30 := Box.ex hB20 hE27
 refine sd rfl (yl_loadN ty28 rfl rfl (q30.cells (n := 1) rfl) rfl ?_)
 have q33 := RdS.ex gS (RdS.ex gS (RdS.ex gS h1 hE15) hE21) hE27
 have q36 := RdS.ex gI (RdS.ex gI (RdS.ex gI h2 hE15) hE21) hE27
 have q39 := RdS.ex gS (RdS.ex gS (RdS.ex gS h4 hE15) hE21) hE27
 refine sd rfl (yC en24 rfl (oc rfl (oc rfl oz)) (Cal.mono (c_s_GoodRow p_t p_r (RdS.up q33 gS) (RdS.up q36 gI) (RdS.up q39 gS) o3 o5) ?_))
 rintro v41 w40 ⟨rfl, hE42⟩
 have hE42z := Ex.size hE42
 refine sd rfl (yl_not rfl rfl (dn (bcase (s_GoodRow p_t p_r) (fun hb43 => ?_) (fun hb43 => ?_))))
 ·obtain ⟨hb43p0, hb43p1, hb43p2⟩ := f_s_GoodRow hb43
  refine CW.cond_f rfl (not_t hb43) (CW.skip (tn (cR (sd rfl (yl_loadN ty26 rfl rfl ((Box.ex q29 hE42).cells (n := 3) rfl) rfl (sd rfl (yl_loadN ty28 rfl rfl ((Box.ex q30 hE42).cells (n := 1) rfl) rfl (sd rfl (yC en25 rfl (oc rfl (oc rfl oz)) (Cal.mono (c_s_l25Write p_t p_r (RdS.up (RdS.ex gS q33 hE42) gS) (RdS.up (RdS.ex gI q36 hE42) gI) (RdS.up (RdS.ex gS q39 hE42) gS) o3 o5 Bo) ?_))))))))))
  rintro v50 w49 ⟨rfl, hE51⟩
  have hE51z := Ex.size hE51
  refine SeqR.u rfl rfl (yl_store (vs := [.string (bs ((s_l25Write p_t p_r).Key)), .string (bs ((s_l25Write p_t p_r).Val)), .bool ((s_l25Write p_t p_r).Gone)]) ty39 rfl rfl rfl rfl rfl rfl (Box.ex (Box.ex hB26 hE42) hE51) (nb rfl) ?_)
  intro w54 hB55 hO56
  have hB55 : Box w54 b22 39 [.string (bs ((s_l25Write p_t p_r).Key)), .string (bs ((s_l25Write p_t p_r).Val)), .bool ((s_l25Write p_t p_r).Gone)] := hB55
  have hO56z := hO56.size
  refine sA rfl (dn (CW.ret (rr rfl (.cons ⟨_, rfl, run_loadN ty39 (cs := [.string (bs ((s_l25Write p_t p_r).Key)), .string (bs ((s_l25Write p_t p_r).Val)), .bool ((s_l25Write p_t p_r).Gone)]) rfl (hB55.cells (n := 3) rfl)⟩ (.cons rfl .nil)) ?_)))
  have hM57 : (s_RowWrite p_t p_r) = (((s_l25Write p_t p_r), true)) := by simp only [s_RowWrite, hb43, cL]
  rw [hM57]
  exact ⟨rfl, (ok_l25Write (t := p_t) (r := p_r) oM oM (by assumption)), (Below.only (Ex.trans (Ex.trans (Ex.trans (Ex.trans (Ex.trans (Ex.refl w) hE15) hE21) hE27) hE42) hE51) hO56 oM)⟩
 ·refine CW.cond_t rfl (not_f hb43) (cR (sd rfl (yl_build (cs := [.string (bs (([] : Str))), .string (bs (([] : Str))), .bool (false)]) rfl opvs_nil (by kernel_rfl) (SeqR.u rfl rfl (yl_store (vs := [.string (bs (([] : Str))), .string (bs (([] : Str))), .bool (false)]) ty39 rfl rfl rfl rfl rfl rfl (Box.ex hB26 hE42) (nb rfl) ?_)))))
  intro w65 hB66 hO67
  have hB66 : Box w65 b22 39 [.string (bs (([] : Str))), .string (bs (([] : Str))), .bool (false)] := hB66
  have hO67z := hO67.size
  refine sA rfl (dn (CW.ret (tr (rr rfl (.cons ⟨_, rfl, run_loadN ty39 (cs := [.string (bs (([] : Str))), .string (bs (([] : Str))), .bool (false)]) rfl (hB66.cells (n := 3) rfl)⟩ (.cons rfl .nil)) ?_))))
  have hM68 : (s_RowWrite p_t p_r) = (((⟨([] : Str), ([] : Str), false⟩ : DWrite), false)) := by simp only [s_RowWrite, hb43, cL]
  rw [hM68]
  exact ⟨rfl, ⟨(okS.lit rfl), (okS.lit rfl)⟩, (Below.only (Ex.trans (Ex.trans (Ex.trans (Ex.trans (Ex.refl w) hE15) hE21) hE27) hE42) hO67 oM)⟩
theorem c_s_l3Key {w : World} (p_s : Str) (o1 : okS p_s) : Cal Tryz.prog 81 #[.string (bs (p_s))] w fun v w' => v = .bool ((s_l3Key p_s)) ∧ Ex w w' := by
 refine Cal.of func81 rfl ntmps81 rfl (cR (sA rfl (dn (cR (sM rfl ?_)))))
 refine sd rfl (yl_slen un9 (a := p_s) rfl rfl (sd rfl (yC en75 rfl (oc rfl (oc rfl (oc rfl oz))) (Cal.mono (c_s_l1In (p_s.length : Int) 1 12) ?_))))
 rintro v4 w3 ⟨rfl, hE5⟩
 refine sM rfl (bcase (s_l1In (p_s.length : Int) 1 12) (fun hb6 => ?_) (fun hb6 => ?_))
 ·have hb6p := f_l1In hb6
  refine sy rfl rfl hb6 (yM rfl rfl (sy rfl rfl hb6 (yC en76 rfl (oc rfl (oc rfl oz)) (Cal.mono (c_s_l3Bytes p_s ([46, 47] : Str) o1 (okS.lit rfl)) ?_))))
  rintro v8 w7 ⟨rfl, hE9⟩
  refine sd rfl (yl_pick_t rfl rfl hb6 rfl (sA rfl (dn (CW.ret (rr rfl (.cons rfl .nil) ?_)))))
  have hM10 : (s_l3Key p_s) = ((s_l3Bytes p_s ([46, 47] : Str))) := by simp only [s_l3Key, hb6, cL]
  rw [hM10]
  exact ⟨rfl, (Ex.trans (Ex.trans (Ex.refl w) hE5) hE9)⟩
 ·refine sz rfl rfl hb6 (sz rfl rfl hb6 (sd rfl (yl_pick_f rfl rfl hb6 rfl (sA rfl (dn (CW.ret (rr rfl (.cons rfl .nil) ?_)))))))
  have hM13 : (s_l3Key p_s) = (false) := by simp only [s_l3Key, hb6, cL]
  rw [hM13]
  exact ⟨rfl, (Ex.trans (Ex.refl w) hE5)⟩
theorem c_s_l3Val {w : World} (p_s : Str) (o1 : okS p_s) : Cal Tryz.prog 82 #[.string (bs (p_s))] w fun v w' => v = .bool ((s_l3Val p_s)) ∧ Ex w w' := by
 refine Cal.of func82 rfl ntmps82 rfl (cR (sA rfl (dn (cR (sM rfl ?_)))))
 refine sd rfl (yl_slen un9 (a := p_s) rfl rfl (sd rfl (yl_leq rfl rfl rfl (sM rfl (bcase (decide ((p_s.length : Int) ≤ 24)) (fun hb3 => ?_) (fun hb3 => ?_))))))
 ·have hb3p := dec_t hb3
  refine sy rfl rfl hb3 (yM rfl rfl (sy rfl rfl hb3 (yC en76 rfl (oc rfl (oc rfl oz)) (Cal.mono (c_s_l3Bytes p_s ([46, 45, 44, 95] : Str) o1 (okS.lit rfl)) ?_))))
  rintro v5 w4 ⟨rfl, hE6⟩
  refine sd rfl (yl_pick_t rfl rfl hb3 rfl (sA rfl (dn (CW.ret (rr rfl (.cons rfl .nil) ?_)))))
  have hM7 : (s_l3Val p_s) = ((s_l3Bytes p_s ([46, 45, 44, 95] : Str))) := by simp only [s_l3Val, hb3, cL]
  rw [hM7]
  exact ⟨rfl, (Ex.trans (Ex.refl w) hE6)⟩
 ·have hb3p := dec_f hb3
  refine sz rfl rfl hb3 (sz rfl rfl hb3 (sd rfl (yl_pick_f rfl rfl hb3 rfl (sA rfl (dn (CW.ret (rr rfl (.cons rfl .nil) ?_)))))))
  have hM9 : (s_l3Val p_s) = (false) := by simp only [s_l3Val, hb3, cL]
  rw [hM9]
  exact ⟨rfl, (Ex.refl w)⟩
theorem c_s_l3Write {w : World} (p_key : Str) (p_val : Str) (p_gone : Bool) (o1 : okS p_key) (o2 : okS p_val) : Cal Tryz.prog 80 #[.string (bs (p_key)), .string (bs (p_val)), .bool (p_gone)] w fun v w' => v = .bool ((s_l3Write p_key p_val p_gone)) ∧ Ex w w' := by
 refine Cal.of func80 rfl ntmps80 rfl (cR (sA rfl (dn (cR (sM rfl ?_)))))
 refine sd rfl (yC en81 rfl (oc rfl oz) (Cal.mono (c_s_l3Key p_key o1) ?_))
 rintro v6 w5 ⟨rfl, hE7⟩
 refine sM rfl (bcase (s_l3Key p_key) (fun hb8 => ?_) (fun hb8 => ?_))
 ·refine sy rfl rfl hb8 (yM rfl rfl (sy rfl rfl hb8 (yC en82 rfl (oc rfl oz) (Cal.mono (c_s_l3Val p_val o2) ?_))))
  rintro v10 w9 ⟨rfl, hE11⟩
  refine sd rfl (yl_pick_t rfl rfl hb8 rfl (sM rfl (bcase (s_l3Val p_val) (fun hb12 => ?_) (fun hb12 => ?_))))
  ·refine sy rfl rfl hb12 (yM rfl rfl (sy rfl rfl hb12 (yl_not rfl rfl (sy rfl rfl hb12 (yM rfl rfl (bcase (p_gone) (fun hb13 => ?_) (fun hb13 => ?_)))))))
   ·refine sy rfl rfl (not_t hb13) (yM rfl rfl (sy rfl rfl (not_t hb13) (yl_seql (a := p_val) (b := ([] : Str)) rfl rfl rfl (sy rfl rfl hb12 (yl_pick_f rfl rfl (not_t hb13) rfl (sd rfl (yl_pick_t rfl rfl hb12 rfl (sA rfl (dn (CW.ret (rr rfl (.cons rfl .nil) ?_)))))))))))
    have hM14 : (s_l3Write p_key p_val p_gone) = (p_val == ([] : Str)) := by simp only [s_l3Write, hb8, hb12, hb13, cL]
    rw [hM14]
    exact ⟨rfl, (Ex.trans (Ex.trans (Ex.refl w) hE7) hE11)⟩
   ·refine sz rfl rfl (not_f hb13) (sz rfl rfl (not_f hb13) (sy rfl rfl hb12 (yl_pick_t rfl rfl (not_f hb13) rfl (sd rfl (yl_pick_t rfl rfl hb12 rfl (sA rfl (dn (CW.ret (rr rfl (.cons rfl .nil) ?_)))))))))
    have hM17 : (s_l3Write p_key p_val p_gone) = (true) := by simp only [s_l3Write, hb8, hb12, hb13, cL]
    rw [hM17]
    exact ⟨rfl, (Ex.trans (Ex.trans (Ex.refl w) hE7) hE11)⟩
  ·refine sz rfl rfl hb12 (sz rfl rfl hb12 (sz rfl rfl hb12 (sq rfl rfl (sq rfl rfl (sz rfl rfl hb12 (sd rfl (yl_pick_f rfl rfl hb12 rfl (sA rfl (SeqR.done ?_)))))))))
   refine tn (CW.ret (rr rfl (.cons rfl .nil) ?_))
   have hM20 : (s_l3Write p_key p_val p_gone) = (false) := by simp only [s_l3Write, hb8, hb12, cL]
   rw [hM20]
   exact ⟨rfl, (Ex.trans (Ex.trans (Ex.refl w) hE7) hE11)⟩
 ·refine sz rfl rfl hb8 (sz rfl rfl hb8 (sd rfl (yl_pick_f rfl rfl hb8 rfl (sM rfl (sz rfl rfl rfl (sz rfl rfl rfl (sz rfl rfl rfl (sq rfl rfl (sq rfl rfl ?_)))))))))
  refine sz rfl rfl rfl (sd rfl (yl_pick_f rfl rfl rfl rfl (sA rfl (dn (CW.ret (rr rfl (.cons rfl .nil) ?_))))))
  have hM23 : (s_l3Write p_key p_val p_gone) = (false) := by simp only [s_l3Write, hb8, cL]
  rw [hM23]
  exact ⟨rfl, (Ex.trans (Ex.refl w) hE7)⟩
theorem c_s_l3Writes {A1 : Option Addr} {c1 : Nat} {w : World} (p_l : List DWrite) (h1 : RdS w (Iv 0 w.heap.size) (RF e_Write) 3 A1 p_l.length c1 p_l) (o2 : (okL ok_Write) p_l) : Cal Tryz.prog 49 #[.slice A1 p_l.length c1] w fun v w' => v = .bool ((s_l3Writes p_l)) ∧ Ex w w' := by
 have hol3 := o2.1
 refine Cal.of func49 rfl ntmps49 rfl (cR (sA rfl (dn (CW.seq (cR ?_)))))
 refine sM rfl (sd rfl (yL un42 rfl rfl (sM rfl (dn (CW.block (CW.loop (fun m24 L25 w26 => ∃ (k4 : Nat), m24 = p_l.length - k4 ∧ k4 ≤ p_l.length ∧ w.heap.size ≤ w26.heap.size ∧ lkp L25 0 = some (.slice A1 p_l.length c1) ∧ lkp L25 5 = some (.slice A1 p_l.length c1) ∧ lkp L25 6 = some (.int .i64 ((p_l.length : Int))) ∧ lkp L25 7 = some (.int .i64 ((k4 : Int))) ∧ RdS w26 (Iv 0 w.heap.size) (RF e_Write) 3 A1 p_l.length c1 p_l ∧ Ex w w26 ∧ loopM (B_s_l3Writes_0 p_l) (p_l.length - k4) k4 () = loopM (B_s_l3Writes_0 p_l) (p_l.length - 0) 0 ()) (p_l.length - 0) ?_ ?_))))))
 ·exact ⟨0, rfl, oM, Nat.le_refl _, rfl, rfl, rfl, rfl, h1, (Ex.refl w), rfl⟩
 ·rintro m27 L28 w29 ⟨k4, rfl, hk30, hsz32, hl33, hl34, hl35, hl36, hf37, hf38, hI31⟩
  refine CW.sub (Sub.cons hl33 (Sub.cons hl34 (Sub.cons hl35 (Sub.cons hl36 (Sub.nil _))))) ?_
  have hf38z := Ex.size hf38
  have hbg39 := RdS.big hf37
  rcases Nat.lt_or_ge k4 p_l.length with hlt40 | hlt40
  ·refine cR (sd rfl (yl_lss rfl rfl rfl (dn (CW.seq (CW.cond_t rfl (lt_t hlt40) (CW.skip (tn ?_)))))))
   refine CW.seq (CW.block (cR (sM rfl ?_)))
   obtain ⟨eb41, eo41, _, eA41, _, ebl41, _, eR41, eC41⟩ := RdS.aD hf37 d_Write (i := k4)
   obtain rfl := eR41
   have eC41 : Cells w29 eb41 (eo41 + k4 * 3) [.string (bs ((p_l.getD k4 d_Write).Key)), .string (bs ((p_l.getD k4 d_Write).Val)), .bool ((p_l.getD k4 d_Write).Gone)] := eC41
   refine sd rfl (yl_ixN un42 ty39 rfl rfl rfl eA41 (sd rfl (yl_loadN ty39 rfl rfl eC41 rfl (sd rfl (yB ty39 (cs := [.string (bs (([] : Str))), .string (bs (([] : Str))), .bool (false)]) rfl rfl ?_)))))
   intro b42 w43 hs44 hz45 hB46 hE47
   refine sA rfl (SeqR.u rfl rfl (yl_store (vs := [.string (bs ((p_l.getD k4 d_Write).Key)), .string (bs ((p_l.getD k4 d_Write).Val)), .bool ((p_l.getD k4 d_Write).Gone)]) ty39 rfl rfl rfl rfl rfl rfl hB46 (nb rfl) ?_))
   intro w48 hB49 hO50
   have hB49 : Box w48 b42 39 [.string (bs ((p_l.getD k4 d_Write).Key)), .string (bs ((p_l.getD k4 d_Write).Val)), .bool ((p_l.getD k4 d_Write).Gone)] := hB49
   have hO50z := hO50.size
   refine dn (CW.seq (bcase (s_l3Write ((p_l.getD k4 d_Write).Key) ((p_l.getD k4 d_Write).Val) ((p_l.getD k4 d_Write).Gone)) (fun hb52 => ?_) (fun hb52 => ?_)))
   ·refine bcase (decide (0 < (k4 : Int))) (fun hb54 => ?_) (fun hb54 => ?_)
    ·have hb54p := dec_t hb54
     have q57 := RdS.only gW (RdS.ex gW hf37 hE47) hO50 (by simp only [Iv]; omega)
     obtain ⟨eb58, eo58, _, eA58, _, ebl58, _, eR58, eC58⟩ := RdS.atD q57 d_Write (i := (IntKind.wrap .i64 ((k4 : Int) - 1)).toNat) Bo
     obtain rfl := eR58
     have eC58 : Cells w48 eb58 (eo58 + ((IntKind.wrap .i64 ((k4 : Int) - 1)).toNat) * 3) [.string (bs ((p_l.getD ((IntKind.wrap .i64 ((k4 : Int) - 1)).toNat) d_Write).Key)), .string (bs ((p_l.getD ((IntKind.wrap .i64 ((k4 : Int) - 1)).toNat) d_Write).Val)), .bool ((p_l.getD ((IntKind.wrap .i64 ((k4 : Int) - 1)).toNat) d_Write).Gone)] := eC58
     refine drI 23 [.pointer (some ⟨b42, 0 + 0, none⟩), .string (bs ((p_l.getD k4 d_Write).Key)), .pointer (some ⟨b42, 0 + 1, none⟩), .string (bs ((p_l.getD k4 d_Write).Val)), .pointer (some ⟨b42, 0 + 2, none⟩), .bool ((p_l.getD k4 d_Write).Gone), .bool ((s_l3Write ((p_l.getD k4 d_Write).Key) ((p_l.getD k4 d_Write).Val) ((p_l.getD k4 d_Write).Gone))), .bool (!(s_l3Write ((p_l.getD k4 d_Write).Key) ((p_l.getD k4 d_Write).Val) ((p_l.getD k4 d_Write).Gone))), .bool (!(s_l3Write ((p_l.getD k4 d_Write).Key) ((p_l.getD k4 d_Write).Val) ((p_l.getD k4 d_Write).Gone))), .int .i64 ((k4 : Int)), .bool (decide (0 < (k4 : Int))), .bool (decide (0 < (k4 : Int))), .slice A1 p_l.length c1, .int .i64 ((k4 : Int)), .int .i64 (IntKind.wrap .i64 ((k4 : Int) - 1)), .pointer (some ⟨eb58, eo58 + ((IntKind.wrap .i64 ((k4 : Int) - 1)).toNat) * 3, none⟩), .pointer (some ⟨eb58, eo58 + ((IntKind.wrap .i64 ((k4 : Int) - 1)).toNat) * 3 + 0, none⟩), .string (bs ((p_l.getD ((IntKind.wrap .i64 ((k4 : Int) - 1)).toNat) d_Write).Key)), .pointer (some ⟨b42, 0 + 0, none⟩), .string (bs ((p_l.getD k4 d_Write).Key)), .bool (!(sLt ((p_l.getD ((IntKind.wrap .i64 ((k4 : Int) - 1)).toNat) d_Write).Key) ((p_l.getD k4 d_Write).Key))), .bool (!(sLt ((p_l.getD ((IntKind.wrap .i64 ((k4 : Int) - 1)).toNat) d_Write).Key) ((p_l.getD k4 d_Write).Key))), .bool (!(sLt ((p_l.getD ((IntKind.wrap .i64 ((k4 : Int) - 1)).toNat) d_Write).Key) ((p_l.getD k4 d_Write).Key)))] Tryz.follows rfl ⟨?_, ?_, ?_, ?_, ?_, ?_, ?_, ?_, ?_, ?_, ?_, ?_, ?_, ?_, ?_, ?_, ?_, ?_, ?_, ?_, ?_, ?_, ?_, trivial⟩ ?_
     ·exact oI rfl fun h => yl_fieldAddr fd39_0 rfl (h.old 4 _ rfl rfl) kI
     ·exact oI rfl fun h => yl_load1 ty9 rfl (h.dt 0 12 rfl rfl rfl) (((Box.ex hB49 h.ex).cell 0).trans rfl) kI
     ·exact oI rfl fun h => yl_fieldAddr fd39_1 rfl (h.old 4 _ rfl rfl) kI
     ·exact oI rfl fun h => yl_load1 ty9 rfl (h.dt 2 14 rfl rfl rfl) (((Box.ex hB49 h.ex).cell 1).trans rfl) kI
     ·exact oI rfl fun h => yl_fieldAddr fd39_2 rfl (h.old 4 _ rfl rfl) kI
     ·exact oI rfl fun h => yl_load1 ty4 rfl (h.dt 4 16 rfl rfl rfl) (((Box.ex hB49 h.ex).cell 2).trans rfl) kI
     ·intro L92 w93 hi94
      exact OpR.op' rfl (yC en80 rfl (oc (hi94.dt 1 13 rfl rfl rfl) (oc (hi94.dt 3 15 rfl rfl rfl) (oc (hi94.dt 5 17 rfl rfl rfl) oz))) (Cal.mono (c_s_l3Write ((p_l.getD k4 d_Write).Key) ((p_l.getD k4 d_Write).Val) ((p_l.getD k4 d_Write).Gone) ((okL.getD o2 ok_d_Write _).1) ((okL.getD o2 ok_d_Write _).2)) fun _ _ h => h))
     ·exact oI rfl fun h => yl_not rfl (h.dt 6 18 rfl rfl rfl) kI
     ·exact oI rfl fun h => yM rfl (h.dt 7 19 rfl rfl rfl) kI
     ·exact oW rfl rfl rfl rfl (not_t hb52) fun h => yM rfl (h.old 3 _ rfl rfl) kI
     ·exact oW rfl rfl rfl rfl (not_t hb52) fun h => yl_gtr rfl (h.dt 9 21 rfl rfl rfl) rfl kI
     ·exact oW rfl rfl rfl rfl (not_t hb52) fun h => yM rfl (h.dt 10 22 rfl rfl rfl) kI
     ·exact oW rfl rfl rfl rfl hb54 fun h => yM rfl (h.old 0 _ rfl rfl) kI
     ·exact oW rfl rfl rfl rfl hb54 fun h => yM rfl (h.old 3 _ rfl rfl) kI
     ·exact oW rfl rfl rfl rfl hb54 fun h => yl_sub rfl (h.dt 13 25 rfl rfl rfl) rfl kI
     ·intro L148 w149 hi150
      have hE151 := hi150.ex
      have hE151z := Ex.size hE151
      exact OpR.want rfl rfl (hi150.dt 11 23 rfl rfl rfl) hb54 (Yl.sameI (yl_indexAddr un42 ty39 rfl (hi150.dt 12 24 rfl rfl rfl) (hi150.dt 14 26 rfl rfl rfl) eA58 Bo Bo kI))
     ·exact oW rfl rfl rfl rfl hb54 fun h => yl_fieldAddr fd39_0 rfl (h.dt 15 27 rfl rfl rfl) kI
     ·exact oW rfl rfl rfl rfl hb54 fun h => yl_load1 ty9 rfl (h.dt 16 28 rfl rfl rfl) ((Cells.ex eC58 h.ex) 0 _ rfl) kI
     ·exact oW rfl rfl rfl rfl hb54 fun h => yl_fieldAddr fd39_0 rfl (h.old 4 _ rfl rfl) kI
     ·exact oW rfl rfl rfl rfl hb54 fun h => yl_load1 ty9 rfl (h.dt 18 30 rfl rfl rfl) (((Box.ex hB49 h.ex).cell 0).trans rfl) kI
     ·exact oW rfl rfl rfl rfl hb54 fun h => yl_sgeq (a := ((p_l.getD ((IntKind.wrap .i64 ((k4 : Int) - 1)).toNat) d_Write).Key)) (b := ((p_l.getD k4 d_Write).Key)) rfl (h.dt 17 29 rfl rfl rfl) (h.dt 19 31 rfl rfl rfl) kI
     ·exact oW rfl rfl rfl rfl (not_t hb52) fun h => yl_pick_t rfl (h.dt 11 23 rfl rfl rfl) hb54 (h.dt 20 32 rfl rfl rfl) kI
     ·exact oI rfl fun h => yl_pick_f rfl (h.dt 8 20 rfl rfl rfl) (not_t hb52) (h.dt 21 33 rfl rfl rfl) kI
     ·intro fl204 fh205 L201 w202 hp203
      have hE206 := hp203.ex
      have hE206z := Ex.size hE206
      refine dn (CW.sub (sC 0 (hp203.old 0 _ rfl rfl) (sC 5 (hp203.old 5 _ rfl rfl) (sC 6 (hp203.old 6 _ rfl rfl) (sC 7 (hp203.old 7 _ rfl rfl) (sC 21 (hp203.nt 9 21 rfl rfl rfl) (sC 22 (hp203.nt 10 22 rfl rfl rfl) (sC 23 (hp203.nt 11 23 rfl rfl rfl) (sC 24 (hp203.nt 12 24 rfl rfl rfl) (sC 25 (hp203.nt 13 25 rfl rfl rfl) (sC 26 (hp203.nt 14 26 rfl rfl rfl) (sC 27 (hp203.nt 15 27 rfl rfl rfl) (sC 28 (hp203.nt 16 28 rfl rfl rfl) (sC 29 (hp203.nt 17 29 rfl rfl rfl) (sC 30 (hp203.nt 18 30 rfl rfl rfl) (sC 31 (hp203.nt 19 31 rfl rfl rfl) (sC 32 (hp203.nt 20 32 rfl rfl rfl) (sC 33 (hp203.nt 21 33 rfl rfl rfl) (sC 34 (hp203.nt 22 34 rfl rfl rfl) (Sub.nil _))))))))))))))))))) (bcase (sLt ((p_l.getD ((IntKind.wrap .i64 ((k4 : Int) - 1)).toNat) d_Write).Key) ((p_l.getD k4 d_Write).Key)) (fun hb225 => ?_) (fun hb225 => ?_)))
      ·refine CW.cond_f rfl (not_t hb225) (CW.skip (bn (tn (CW.region (sd rfl (yl_inc rfl rfl rfl oM (sM rfl (dn ?_))))))))
       have hB226 : B_s_l3Writes_0 p_l k4 () = .cont () := by simp only [B_s_l3Writes_0, hb52, hb54, hb225, cL]
       exact ⟨p_l.length - (k4 + 1), oM, k4 + 1, rfl, hlt40, oM, rfl, rfl, rfl, rfl, (RdS.ex gW q57 hE206), (Ex.trans (Below.only (Ex.trans hf38 hE47) hO50 oM) hE206), (loopM.cont hlt40 hB226).symm.trans hI31⟩
      ·refine CW.cond_t rfl (not_f hb225) (cR (sA rfl (dn (CW.ret (br (tr ?_))))))
       refine tr ?_
       have hB232 : B_s_l3Writes_0 p_l k4 () = .ret false := by simp only [B_s_l3Writes_0, hb52, hb54, hb225, cL]
       have hL231 : loopM (B_s_l3Writes_0 p_l) (p_l.length - 0) 0 () = .ret false := hI31.symm.trans (loopM.ret hlt40 hB232)
       refine br (tr (rr rfl (.cons rfl .nil) ?_))
       have hM233 : (s_l3Writes p_l) = (false) := by simp only [s_l3Writes, hb52, hb54, hb225, hL231, cL]
       rw [hM233]
       exact ⟨rfl, (Ex.trans (Below.only (Ex.trans hf38 hE47) hO50 oM) hE206)⟩
    ·have hb54p := dec_f hb54
     refine drI 23 [.pointer (some ⟨b42, 0 + 0, none⟩), .string (bs ((p_l.getD k4 d_Write).Key)), .pointer (some ⟨b42, 0 + 1, none⟩), .string (bs ((p_l.getD k4 d_Write).Val)), .pointer (some ⟨b42, 0 + 2, none⟩), .bool ((p_l.getD k4 d_Write).Gone), .bool ((s_l3Write ((p_l.getD k4 d_Write).Key) ((p_l.getD k4 d_Write).Val) ((p_l.getD k4 d_Write).Gone))), .bool (!(s_l3Write ((p_l.getD k4 d_Write).Key) ((p_l.getD k4 d_Write).Val) ((p_l.getD k4 d_Write).Gone))), .bool (!(s_l3Write ((p_l.getD k4 d_Write).Key) ((p_l.getD k4 d_Write).Val) ((p_l.getD k4 d_Write).Gone))), .int .i64 ((k4 : Int)), .bool (decide (0 < (k4 : Int))), .bool (decide (0 < (k4 : Int))), undef, undef, undef, undef, undef, undef, undef, undef, undef, .bool (false), .bool (false)] Tryz.follows rfl ⟨?_, ?_, ?_, ?_, ?_, ?_, ?_, ?_, ?_, ?_, ?_, ?_, ?_, ?_, ?_, ?_, ?_, ?_, ?_, ?_, ?_, ?_, ?_, trivial⟩ ?_
     ·exact oI rfl fun h => yl_fieldAddr fd39_0 rfl (h.old 4 _ rfl rfl) kI
     ·exact oI rfl fun h => yl_load1 ty9 rfl (h.dt 0 12 rfl rfl rfl) (((Box.ex hB49 h.ex).cell 0).trans rfl) kI
     ·exact oI rfl fun h => yl_fieldAddr fd39_1 rfl (h.old 4 _ rfl rfl) kI
     ·exact oI rfl fun h => yl_load1 ty9 rfl (h.dt 2 14 rfl rfl rfl) (((Box.ex hB49 h.ex).cell 1).trans rfl) kI
     ·exact oI rfl fun h => yl_fieldAddr fd39_2 rfl (h.old 4 _ rfl rfl) kI
     ·exact oI rfl fun h => yl_load1 ty4 rfl (h.dt 4 16 rfl rfl rfl) (((Box.ex hB49 h.ex).cell 2).trans rfl) kI
     ·intro L271 w272 hi273
      exact OpR.op' rfl (yC en80 rfl (oc (hi273.dt 1 13 rfl rfl rfl) (oc (hi273.dt 3 15 rfl rfl rfl) (oc (hi273.dt 5 17 rfl rfl rfl) oz))) (Cal.mono (c_s_l3Write ((p_l.getD k4 d_Write).Key) ((p_l.getD k4 d_Write).Val) ((p_l.getD k4 d_Write).Gone) ((okL.getD o2 ok_d_Write _).1) ((okL.getD o2 ok_d_Write _).2)) fun _ _ h => h))
     ·exact oI rfl fun h => yl_not rfl (h.dt 6 18 rfl rfl rfl) kI
     ·exact oI rfl fun h => yM rfl (h.dt 7 19 rfl rfl rfl) kI
     ·exact oW rfl rfl rfl rfl (not_t hb52) fun h => yM rfl (h.old 3 _ rfl rfl) kI
     ·exact oW rfl rfl rfl rfl (not_t hb52) fun h => yl_gtr rfl (h.dt 9 21 rfl rfl rfl) rfl kI
     ·exact oW rfl rfl rfl rfl (not_t hb52) fun h => yM rfl (h.dt 10 22 rfl rfl rfl) kI
     ·exact oS rfl rfl rfl rfl rfl hb54
     ·exact oS rfl rfl rfl rfl rfl hb54
     ·exact oS rfl rfl rfl rfl rfl hb54
     ·exact oS rfl rfl rfl rfl rfl hb54
     ·exact oS rfl rfl rfl rfl rfl hb54
     ·exact oS rfl rfl rfl rfl rfl hb54
     ·exact oS rfl rfl rfl rfl rfl hb54
     ·exact oS rfl rfl rfl rfl rfl hb54
     ·exact oS rfl rfl rfl rfl rfl hb54
     ·exact oW rfl rfl rfl rfl (not_t hb52) fun h => yl_pick_f rfl (h.dt 11 23 rfl rfl rfl) hb54 rfl kI
     ·exact oI rfl fun h => yl_pick_f rfl (h.dt 8 20 rfl rfl rfl) (not_t hb52) (h.dt 21 33 rfl rfl rfl) kI
     ·intro fl370 fh371 L367 w368 hp369
      have hE372 := hp369.ex
      have hE372z := Ex.size hE372
      refine dn (CW.sub (sC 0 (hp369.old 0 _ rfl rfl) (sC 5 (hp369.old 5 _ rfl rfl) (sC 6 (hp369.old 6 _ rfl rfl) (sC 7 (hp369.old 7 _ rfl rfl) (sC 21 (hp369.nt 9 21 rfl rfl rfl) (sC 22 (hp369.nt 10 22 rfl rfl rfl) (sC 23 (hp369.nt 11 23 rfl rfl rfl) (sC 24 (hp369.nt 12 24 rfl rfl rfl) (sC 25 (hp369.nt 13 25 rfl rfl rfl) (sC 26 (hp369.nt 14 26 rfl rfl rfl) (sC 27 (hp369.nt 15 27 rfl rfl rfl) (sC 28 (hp369.nt 16 28 rfl rfl rfl) (sC 29 (hp369.nt 17 29 rfl rfl rfl) (sC 30 (hp369.nt 18 30 rfl rfl rfl) (sC 31 (hp369.nt 19 31 rfl rfl rfl) (sC 32 (hp369.nt 20 32 rfl rfl rfl) (sC 33 (hp369.nt 21 33 rfl rfl rfl) (sC 34 (hp369.nt 22 34 rfl rfl rfl) (Sub.nil _))))))))))))))))))) (CW.cond_f rfl rfl (CW.skip (bn (tn (CW.region (sd rfl (yl_inc rfl rfl rfl oM ?_))))))))
      refine sM rfl (dn ?_)
      have hB391 : B_s_l3Writes_0 p_l k4 () = .cont () := by simp only [B_s_l3Writes_0, hb52, hb54, cL]
      exact ⟨p_l.length - (k4 + 1), oM, k4 + 1, rfl, hlt40, oM, rfl, rfl, rfl, rfl, (RdS.ex gW (RdS.only gW (RdS.ex gW hf37 hE47) hO50 (by simp only [Iv]; omega)) hE372), (Ex.trans (Below.only (Ex.trans hf38 hE47) hO50 oM) hE372), (loopM.cont hlt40 hB391).symm.trans hI31⟩
   ·refine drI 23 [.pointer (some ⟨b42, 0 + 0, none⟩), .string (bs ((p_l.getD k4 d_Write).Key)), .pointer (some ⟨b42, 0 + 1, none⟩), .string (bs ((p_l.getD k4 d_Write).Val)), .pointer (some ⟨b42, 0 + 2, none⟩), .bool ((p_l.getD k4 d_Write).Gone), .bool ((s_l3Write ((p_l.getD k4 d_Write).Key) ((p_l.getD k4 d_Write).Val) ((p_l.getD k4 d_Write).Gone))), .bool (!(s_l3Write ((p_l.getD k4 d_Write).Key) ((p_l.getD k4 d_Write).Val) ((p_l.getD k4 d_Write).Gone))), .bool (!(s_l3Write ((p_l.getD k4 d_Write).Key) ((p_l.getD k4 d_Write).Val) ((p_l.getD k4 d_Write).Gone))), undef, undef, undef, undef, undef, undef, undef, undef, undef, undef, undef, undef, undef, .bool (true)] Tryz.follows rfl ⟨?_, ?_, ?_, ?_, ?_, ?_, ?_, ?_, ?_, ?_, ?_, ?_, ?_, ?_, ?_, ?_, ?_, ?_, ?_, ?_, ?_, ?_, ?_, trivial⟩ ?_
    ·exact oI rfl fun h => yl_fieldAddr fd39_0 rfl (h.old 4 _ rfl rfl) kI
    ·exact oI rfl fun h => yl_load1 ty9 rfl (h.dt 0 12 rfl rfl rfl) (((Box.ex hB49 h.ex).cell 0).trans rfl) kI
    ·exact oI rfl fun h => yl_fieldAddr fd39_1 rfl (h.old 4 _ rfl rfl) kI
    ·exact oI rfl fun h => yl_load1 ty9 rfl (h.dt 2 14 rfl rfl rfl) (((Box.ex hB49 h.ex).cell 1).trans rfl) kI
    ·exact oI rfl fun h => yl_fieldAddr fd39_2 rfl (h.old 4 _ rfl rfl) kI
    ·exact oI rfl fun h => yl_load1 ty4 rfl (h.dt 4 16 rfl rfl rfl) (((Box.ex hB49 h.ex).cell 2).trans rfl) kI
    ·intro L432 w433 hi434
     exact OpR.op' rfl (yC en80 rfl (oc (hi434.dt 1 13 rfl rfl rfl) (oc (hi434.dt 3 15 rfl rfl rfl) (oc (hi434.dt 5 17 rfl rfl rfl) oz))) (Cal.mono (c_s_l3Write ((p_l.getD k4 d_Write).Key) ((p_l.getD k4 d_Write).Val) ((p_l.getD k4 d_Write).Gone) ((okL.getD o2 ok_d_Write _).1) ((okL.getD o2 ok_d_Write _).2)) fun _ _ h => h))
    ·exact oI rfl fun h => yl_not rfl (h.dt 6 18 rfl rfl rfl) kI
    ·exact oI rfl fun h => yM rfl (h.dt 7 19 rfl rfl rfl) kI
    ·exact oS rfl rfl rfl rfl rfl (not_f hb52)
    ·exact oS rfl rfl rfl rfl rfl (not_f hb52)
    ·exact oS rfl rfl rfl rfl rfl (not_f hb52)
    ·exact oU rfl rfl rfl rfl rfl
    ·exact oU rfl rfl rfl rfl rfl
    ·exact oU rfl rfl rfl rfl rfl
    ·exact oU rfl rfl rfl rfl rfl
    ·exact oU rfl rfl rfl rfl rfl
    ·exact oU rfl rfl rfl rfl rfl
    ·exact oU rfl rfl rfl rfl rfl
    ·exact oU rfl rfl rfl rfl rfl
    ·exact oU rfl rfl rfl rfl rfl
    ·exact oS rfl rfl rfl rfl rfl (not_f hb52)
    ·exact oI rfl fun h => yl_pick_t rfl (h.dt 8 20 rfl rfl rfl) (not_f hb52) rfl kI
    ·intro fl526 fh527 L523 w524 hp525
     have hE528 := hp525.ex
     have hE528z := Ex.size hE528
     refine dn (CW.sub (sC 0 (hp525.old 0 _ rfl rfl) (sC 5 (hp525.old 5 _ rfl rfl) (sC 6 (hp525.old 6 _ rfl rfl) (sC 7 (hp525.old 7 _ rfl rfl) (sC 21 (hp525.nt 9 21 rfl rfl rfl) (sC 22 (hp525.nt 10 22 rfl rfl rfl) (sC 23 (hp525.nt 11 23 rfl rfl rfl) (sC 24 (hp525.nt 12 24 rfl rfl rfl) (sC 25 (hp525.nt 13 25 rfl rfl rfl) (sC 26 (hp525.nt 14 26 rfl rfl rfl) (sC 27 (hp525.nt 15 27 rfl rfl rfl) (sC 28 (hp525.nt 16 28 rfl rfl rfl) (sC 29 (hp525.nt 17 29 rfl rfl rfl) (sC 30 (hp525.nt 18 30 rfl rfl rfl) (sC 31 (hp525.nt 19 31 rfl rfl rfl) (sC 32 (hp525.nt 20 32 rfl rfl rfl) (sC 33 (hp525.nt 21 33 rfl rfl rfl) (sC 34 (hp525.nt 22 34 rfl rfl rfl) (Sub.nil _))))))))))))))))))) (CW.cond_t rfl rfl (cR (sA rfl (dn ?_)))))
     refine CW.ret (br (tr (tr ?_)))
     have hB548 : B_s_l3Writes_0 p_l k4 () = .ret false := by simp only [B_s_l3Writes_0, hb52, cL]
     have hL547 : loopM (B_s_l3Writes_0 p_l) (p_l.length - 0) 0 () = .ret false := hI31.symm.trans (loopM.ret hlt40 hB548)
     refine br (tr (rr rfl (.cons rfl .nil) ?_))
     have hM549 : (s_l3Writes p_l) = (false) := by simp only [s_l3Writes, hb52, hL547, cL]
     rw [hM549]
     exact ⟨rfl, (Ex.trans (Below.only (Ex.trans hf38 hE47) hO50 oM) hE528)⟩
  ·refine cR (sd rfl (yl_lss rfl rfl rfl (dn (CW.seq (CW.cond_f rfl (lt_f hlt40) (CW.exit (tx ?_)))))))
   refine tx ?_
   have hL553 : loopM (B_s_l3Writes_0 p_l) (p_l.length - 0) 0 () = .done () := hI31.symm.trans (loopM.stop hlt40)
   refine bx (tn (cR (sM rfl (sd rfl (yL un42 rfl rfl (sd rfl (yl_leq rfl rfl rfl (sA rfl (SeqR.done ?_)))))))))
   refine tn (CW.ret (rr rfl (.cons rfl .nil) ?_))
   have hM554 : (s_l3Writes p_l) = (decide ((p_l.length : Int) ≤ 24)) := by simp only [s_l3Writes, hL553, cL]
   rw [hM554]
   exact ⟨rfl, hf38⟩
theorem c_s_l5Rows {A1 : Option Addr} {c1 : Nat} {w : World} (p_l : List DWrite) (h1 : RdS w (Iv 0 w.heap.size) (RF e_Write) 3 A1 p_l.length c1 p_l) (o2 : (okL ok_Write) p_l) : Cal Tryz.prog 26 #[.slice A1 p_l.length c1] w fun v w' => v = .bool ((s_l5Rows p_l)) ∧ Ex w w' := by
 have hol3 := o2.1
 refine Cal.of func26 rfl ntmps26 rfl (cR (sA rfl (dn (CW.seq (cR ?_)))))
 refine sM rfl (sd rfl (yL un42 rfl rfl (sM rfl (dn (CW.block (CW.loop (fun m16 L17 w18 => ∃ (k4 : Nat), m16 = p_l.length - k4 ∧ k4 ≤ p_l.length ∧ w.heap.size ≤ w18.heap.size ∧ lkp L17 0 = some (.slice A1 p_l.length c1) ∧ lkp L17 5 = some (.slice A1 p_l.length c1) ∧ lkp L17 6 = some (.int .i64 ((p_l.length : Int))) ∧ lkp L17 7 = some (.int .i64 ((k4 : Int))) ∧ RdS w18 (Iv 0 w.heap.size) (RF e_Write) 3 A1 p_l.length c1 p_l ∧ Ex w w18 ∧ loopM (B_s_l5Rows_0 p_l) (p_l.length - k4) k4 () = loopM (B_s_l5Rows_0 p_l) (p_l.length - 0) 0 ()) (p_l.length - 0) ?_ ?_))))))
 ·exact ⟨0, rfl, oM, Nat.le_refl _, rfl, rfl, rfl, rfl, h1, (Ex.refl w), rfl⟩
 ·rintro m19 L20 w21 ⟨k4, rfl, hk22, hsz24, hl25, hl26, hl27, hl28, hf29, hf30, hI23⟩
  refine CW.sub (Sub.cons hl25 (Sub.cons hl26 (Sub.cons hl27 (Sub.cons hl28 (Sub.nil _))))) ?_
  have hf30z := Ex.size hf30
  have hbg31 := RdS.big hf29
  rcases Nat.lt_or_ge k4 p_l.length with hlt32 | hlt32
  ·refine cR (sd rfl (yl_lss rfl rfl rfl (dn (CW.seq (CW.cond_t rfl (lt_t hlt32) (CW.skip (tn ?_)))))))
   refine CW.seq (CW.block (cR ?_))
   obtain ⟨eb33, eo33, _, eA33, _, ebl33, _, eR33, eC33⟩ := RdS.aD hf29 d_Write (i := k4)
   obtain rfl := eR33
   have eC33 : Cells w21 eb33 (eo33 + k4 * 3) [.string (bs ((p_l.getD k4 d_Write).Key)), .string (bs ((p_l.getD k4 d_Write).Val)), .bool ((p_l.getD k4 d_Write).Gone)] := eC33
   refine sd rfl (yl_ixN un42 ty39 rfl rfl rfl eA33 (sd rfl (yl_loadN ty39 rfl rfl eC33 rfl (sd rfl (yB ty39 (cs := [.string (bs (([] : Str))), .string (bs (([] : Str))), .bool (false)]) rfl rfl ?_)))))
   intro b34 w35 hs36 hz37 hB38 hE39
   refine SeqR.u rfl rfl (yl_store (vs := [.string (bs ((p_l.getD k4 d_Write).Key)), .string (bs ((p_l.getD k4 d_Write).Val)), .bool ((p_l.getD k4 d_Write).Gone)]) ty39 rfl rfl rfl rfl rfl rfl hB38 (nb rfl) ?_)
   intro w40 hB41 hO42
   have hB41 : Box w40 b34 39 [.string (bs ((p_l.getD k4 d_Write).Key)), .string (bs ((p_l.getD k4 d_Write).Val)), .bool ((p_l.getD k4 d_Write).Gone)] := hB41
   have hO42z := hO42.size
   refine dn (cR (sd rfl (yl_fieldAddr fd39_2 rfl rfl (sd rfl (yl_load1 ty4 rfl rfl ((hB41.cell 2).trans rfl) (dn (bcase ((p_l.getD k4 d_Write).Gone) (fun hb43 => ?_) (fun hb43 => ?_))))))))
   ·refine CW.cond_t rfl hb43 (cR (sA rfl (dn (CW.ret (br (tr ?_))))))
    refine tr ?_
    have hB45 : B_s_l5Rows_0 p_l k4 () = .ret false := by simp only [B_s_l5Rows_0, hb43, cL]
    have hL44 : loopM (B_s_l5Rows_0 p_l) (p_l.length - 0) 0 () = .ret false := hI23.symm.trans (loopM.ret hlt32 hB45)
    refine br (tr (rr rfl (.cons rfl .nil) ?_))
    have hM46 : (s_l5Rows p_l) = (false) := by simp only [s_l5Rows, hb43, hL44, cL]
    rw [hM46]
    exact ⟨rfl, (Below.only (Ex.trans hf30 hE39) hO42 oM)⟩
   ·refine CW.cond_f rfl hb43 (CW.skip (bn (tn (CW.region (sd rfl (yl_inc rfl rfl rfl oM (sM rfl (dn ?_))))))))
    have hB49 : B_s_l5Rows_0 p_l k4 () = .cont () := by simp only [B_s_l5Rows_0, hb43, cL]
    exact ⟨p_l.length - (k4 + 1), oM, k4 + 1, rfl, hlt32, oM, rfl, rfl, rfl, rfl, (RdS.only gW (RdS.ex gW hf29 hE39) hO42 (by simp only [Iv]; omega)), (Below.only (Ex.trans hf30 hE39) hO42 oM), (loopM.cont hlt32 hB49).symm.trans hI23⟩
  ·refine cR (sd rfl (yl_lss rfl rfl rfl (dn (CW.seq (CW.cond_f rfl (lt_f hlt32) (CW.exit (tx ?_)))))))
   refine tx ?_
   have hL54 : loopM (B_s_l5Rows_0 p_l) (p_l.length - 0) 0 () = .done () := hI23.symm.trans (loopM.stop hlt32)
   refine bx (tn (cR (sM rfl (sd rfl (yC en49 rfl (oc rfl oz) (Cal.mono (c_s_l3Writes p_l (RdS.up hf29 gW) o2) ?_))))))
   rintro v56 w55 ⟨rfl, hE57⟩
   have hE57z := Ex.size hE57
   refine sA rfl (dn (CW.ret (rr rfl (.cons rfl .nil) ?_)))
   have hM58 : (s_l5Rows p_l) = ((s_l3Writes p_l)) := by simp only [s_l5Rows, hL54, cL]
   rw [hM58]
   exact ⟨rfl, (Ex.trans hf30 hE57)⟩
theorem c_s_l5Op {w : World} (p_o : DOp) (o1 : ok_Op p_o) : Cal Tryz.prog 50 #[.agg #[.int .i64 (p_o.Kind), .string (bs (p_o.Key)), .string (bs (p_o.Val)), .int .i64 (p_o.By)]] w fun v w' => v = .bool ((s_l5Op p_o)) ∧ Ex w w' := by
 refine Cal.of func50 rfl ntmps50 rfl (cR (sd rfl (yl_box rfl rfl rfl ?_)))
 intro b4 w5 hs6 hz7 hB8 hE9
 refine sA rfl (dn (CW.seq (cR (sd rfl (yl_fieldAddr fd61_1 rfl rfl (sd rfl (yl_load1 ty9 rfl rfl ((hB8.cell 1).trans rfl) (sd rfl (yC en81 rfl (oc rfl oz) (Cal.mono (c_s_l3Key p_o.Key o1.1) ?_))))))))))
 rintro v11 w10 ⟨rfl, hE12⟩
 refine sd rfl (yl_not rfl rfl (dn (bcase (s_l3Key p_o.Key) (fun hb13 => ?_) (fun hb13 => ?_))))
 ·refine CW.cond_f rfl (not_t hb13) (CW.skip (tn (CW.seq (cR (sd rfl (yl_fieldAddr fd61_0 rfl rfl ?_))))))
  have q14 := Box.ex hB8 hE12
  refine sd rfl (yl_load1 ty3 rfl rfl ((q14.cell 0).trans rfl) (dn (CW.block (CW.seq (cR (sd rfl (yl_eql rfl rfl rfl (sA rfl ?_))))))))
  refine dn (bcase (decide (p_o.Kind = 2)) (fun hb15 => ?_) (fun hb15 => ?_))
  ·have hb15p := dec_t hb15
   refine CW.cond_t rfl hb15 (CW.skip (tn (CW.cond_t rfl hb15 (cR (sd rfl (yl_fieldAddr fd61_2 rfl rfl (sd rfl (yl_load1 ty9 rfl rfl ((q14.cell 2).trans rfl) (sd rfl (yC en82 rfl (oc rfl oz) (Cal.mono (c_s_l3Val p_o.Val o1.2) ?_)))))))))))
   rintro v17 w16 ⟨rfl, hE18⟩
   refine sM rfl (bcase (s_l3Val p_o.Val) (fun hb19 => ?_) (fun hb19 => ?_))
   ·refine sy rfl rfl hb19 (yl_fieldAddr fd61_3 rfl rfl (sy rfl rfl hb19 (yl_load1 ty3 rfl rfl (((Box.ex q14 hE18).cell 3).trans rfl) (sy rfl rfl hb19 (yl_eql rfl rfl rfl (sd rfl (yl_pick_t rfl rfl hb19 rfl (sA rfl (dn (CW.ret (br ?_)))))))))))
    refine tr (rr rfl (.cons rfl .nil) ?_)
    have hM21 : (s_l5Op p_o) = (decide (p_o.By = 0)) := by simp only [s_l5Op, hb13, hb15, hb19, cL]
    rw [hM21]
    exact ⟨rfl, (Ex.trans (Ex.trans (Ex.trans (Ex.refl w) hE9) hE12) hE18)⟩
   ·refine sz rfl rfl hb19 (sz rfl rfl hb19 (sz rfl rfl hb19 (sd rfl (yl_pick_f rfl rfl hb19 rfl (sA rfl (dn (CW.ret (br ?_))))))))
    refine tr (rr rfl (.cons rfl .nil) ?_)
    have hM25 : (s_l5Op p_o) = (false) := by simp only [s_l5Op, hb13, hb15, hb19, cL]
    rw [hM25]
    exact ⟨rfl, (Ex.trans (Ex.trans (Ex.trans (Ex.refl w) hE9) hE12) hE18)⟩
  ·have hb15p := dec_f hb15
   refine CW.cond_f rfl hb15 (CW.region (sd rfl (yl_eql rfl rfl rfl (sA rfl (dn (bcase (decide (p_o.Kind = 7)) (fun hb29 => ?_) (fun hb29 => ?_)))))))
   ·have hb29p := dec_t hb29
    refine CW.cond_t rfl hb29 (cR (sd rfl (yl_fieldAddr fd61_2 rfl rfl (sd rfl (yl_load1 ty9 rfl rfl ((q14.cell 2).trans rfl) (sd rfl (yC en82 rfl (oc rfl oz) (Cal.mono (c_s_l3Val p_o.Val o1.2) ?_))))))))
    rintro v31 w30 ⟨rfl, hE32⟩
    refine sM rfl (bcase (s_l3Val p_o.Val) (fun hb33 => ?_) (fun hb33 => ?_))
    ·refine sy rfl rfl hb33 (yl_fieldAddr fd61_3 rfl rfl (sy rfl rfl hb33 (yl_load1 ty3 rfl rfl (((Box.ex q14 hE32).cell 3).trans rfl) (sy rfl rfl hb33 (yl_eql rfl rfl rfl (sd rfl (yl_pick_t rfl rfl hb33 rfl (sA rfl (dn (CW.ret (br ?_)))))))))))
     refine tr (rr rfl (.cons rfl .nil) ?_)
     have hM35 : (s_l5Op p_o) = (decide (p_o.By = 0)) := by simp only [s_l5Op, hb13, hb15, hb29, hb33, cL]
     rw [hM35]
     exact ⟨rfl, (Ex.trans (Ex.trans (Ex.trans (Ex.refl w) hE9) hE12) hE32)⟩
    ·refine sz rfl rfl hb33 (sz rfl rfl hb33 (sz rfl rfl hb33 (sd rfl (yl_pick_f rfl rfl hb33 rfl (sA rfl (dn (CW.ret (br ?_))))))))
     refine tr (rr rfl (.cons rfl .nil) ?_)
     have hM39 : (s_l5Op p_o) = (false) := by simp only [s_l5Op, hb13, hb15, hb29, hb33, cL]
     rw [hM39]
     exact ⟨rfl, (Ex.trans (Ex.trans (Ex.trans (Ex.refl w) hE9) hE12) hE32)⟩
   ·have hb29p := dec_f hb29
    refine CW.cond_f rfl hb29 (CW.seq (cR (sd rfl (yl_eql rfl rfl rfl (sA rfl (dn (bcase (decide (p_o.Kind = 4)) (fun hb43 => ?_) (fun hb43 => ?_))))))))
    ·have hb43p := dec_t hb43
     refine CW.cond_t rfl hb43 (CW.skip (tn (CW.cond_t rfl hb43 (cR (sd rfl (yl_fieldAddr fd61_2 rfl rfl (sd rfl (yl_load1 ty9 rfl rfl ((q14.cell 2).trans rfl) (sd rfl (yl_seql (a := p_o.Val) (b := ([] : Str)) rfl rfl rfl ?_))))))))))
     refine sM rfl (bcase (p_o.Val == ([] : Str)) (fun hb44 => ?_) (fun hb44 => ?_))
     ·refine sy rfl rfl hb44 (yl_fieldAddr fd61_3 rfl rfl (sy rfl rfl hb44 (yl_load1 ty3 rfl rfl ((q14.cell 3).trans rfl) (sy rfl rfl hb44 (yC en75 rfl (oc rfl (oc rfl (oc rfl oz))) (Cal.mono (c_s_l1In p_o.By (-9999) 9999) ?_))))))
      rintro v46 w45 ⟨rfl, hE47⟩
      refine sd rfl (yl_pick_t rfl rfl hb44 rfl (sA rfl (dn (CW.ret (br (tr (rr rfl (.cons rfl .nil) ?_)))))))
      have hM48 : (s_l5Op p_o) = ((s_l1In p_o.By (-9999) 9999)) := by simp only [s_l5Op, hb13, hb15, hb29, hb43, hb44, cL]
      rw [hM48]
      exact ⟨rfl, (Ex.trans (Ex.trans (Ex.trans (Ex.refl w) hE9) hE12) hE47)⟩
     ·refine sz rfl rfl hb44 (sz rfl rfl hb44 (sz rfl rfl hb44 (sd rfl (yl_pick_f rfl rfl hb44 rfl (sA rfl (dn (CW.ret (br ?_))))))))
      refine tr (rr rfl (.cons rfl .nil) ?_)
      have hM52 : (s_l5Op p_o) = (false) := by simp only [s_l5Op, hb13, hb15, hb29, hb43, hb44, cL]
      rw [hM52]
      exact ⟨rfl, (Ex.trans (Ex.trans (Ex.refl w) hE9) hE12)⟩
    ·have hb43p := dec_f hb43
     refine CW.cond_f rfl hb43 (CW.region (sd rfl (yl_eql rfl rfl rfl (sA rfl (dn (bcase (decide (p_o.Kind = 5)) (fun hb55 => ?_) (fun hb55 => ?_)))))))
     ·have hb55p := dec_t hb55
      refine CW.cond_t rfl hb55 (cR (sd rfl (yl_fieldAddr fd61_2 rfl rfl (sd rfl (yl_load1 ty9 rfl rfl ((q14.cell 2).trans rfl) (sd rfl (yl_seql (a := p_o.Val) (b := ([] : Str)) rfl rfl rfl (sM rfl (bcase (p_o.Val == ([] : Str)) (fun hb56 => ?_) (fun hb56 => ?_))))))))))
      ·refine sy rfl rfl hb56 (yl_fieldAddr fd61_3 rfl rfl (sy rfl rfl hb56 (yl_load1 ty3 rfl rfl ((q14.cell 3).trans rfl) (sy rfl rfl hb56 (yC en75 rfl (oc rfl (oc rfl (oc rfl oz))) (Cal.mono (c_s_l1In p_o.By (-9999) 9999) ?_))))))
       rintro v58 w57 ⟨rfl, hE59⟩
       refine sd rfl (yl_pick_t rfl rfl hb56 rfl (sA rfl (dn (CW.ret (br (tr (rr rfl (.cons rfl .nil) ?_)))))))
       have hM60 : (s_l5Op p_o) = ((s_l1In p_o.By (-9999) 9999)) := by simp only [s_l5Op, hb13, hb15, hb29, hb43, hb55, hb56, cL]
       rw [hM60]
       exact ⟨rfl, (Ex.trans (Ex.trans (Ex.trans (Ex.refl w) hE9) hE12) hE59)⟩
      ·refine sz rfl rfl hb56 (sz rfl rfl hb56 (sz rfl rfl hb56 (sd rfl (yl_pick_f rfl rfl hb56 rfl (sA rfl (dn (CW.ret (br ?_))))))))
       refine tr (rr rfl (.cons rfl .nil) ?_)
       have hM64 : (s_l5Op p_o) = (false) := by simp only [s_l5Op, hb13, hb15, hb29, hb43, hb55, hb56, cL]
       rw [hM64]
       exact ⟨rfl, (Ex.trans (Ex.trans (Ex.refl w) hE9) hE12)⟩
     ·have hb55p := dec_f hb55
      refine CW.cond_f rfl hb55 (CW.skip (bn (tn (cR (sd rfl (yl_fieldAddr fd61_0 rfl rfl (sd rfl (yl_load1 ty3 rfl rfl ((q14.cell 0).trans rfl) (sd rfl (yl_eql rfl rfl rfl ?_))))))))))
      refine sM rfl (bcase (decide (p_o.Kind = 1)) (fun hb67 => ?_) (fun hb67 => ?_))
      ·have hb67p := dec_t hb67
       refine sz rfl rfl hb67 (sz rfl rfl hb67 (sz rfl rfl hb67 (sd rfl (yl_pick_t rfl rfl hb67 rfl (sM rfl (sz rfl rfl rfl (sz rfl rfl rfl (sz rfl rfl rfl (sd rfl (yl_pick_t rfl rfl rfl rfl ?_))))))))))
       refine sM rfl (sy rfl rfl rfl (yl_fieldAddr fd61_2 rfl rfl (sy rfl rfl rfl (yl_load1 ty9 rfl rfl ((q14.cell 2).trans rfl) (sy rfl rfl rfl (yl_seql (a := p_o.Val) (b := ([] : Str)) rfl rfl rfl (sd rfl (yl_pick_t rfl rfl rfl rfl (sM rfl (bcase (p_o.Val == ([] : Str)) (fun hb68 => ?_) (fun hb68 => ?_)))))))))))
       ·refine sy rfl rfl hb68 (yl_fieldAddr fd61_3 rfl rfl (sy rfl rfl hb68 (yl_load1 ty3 rfl rfl ((q14.cell 3).trans rfl) (sy rfl rfl hb68 (yl_eql rfl rfl rfl (sd rfl (yl_pick_t rfl rfl hb68 rfl (sA rfl (dn (CW.ret (rr rfl (.cons rfl .nil) ?_)))))))))))
        have hM69 : (s_l5Op p_o) = (decide (p_o.By = 0)) := by simp only [s_l5Op, hb13, hb15, hb29, hb43, hb55, hb67, hb68, cL]
        rw [hM69]
        exact ⟨rfl, (Ex.trans (Ex.trans (Ex.refl w) hE9) hE12)⟩
       ·refine sz rfl rfl hb68 (sz rfl rfl hb68 (sz rfl rfl hb68 (sd rfl (yl_pick_f rfl rfl hb68 rfl (sA rfl (dn (CW.ret (rr rfl (.cons rfl .nil) ?_))))))))
        have hM72 : (s_l5Op p_o) = (false) := by simp only [s_l5Op, hb13, hb15, hb29, hb43, hb55, hb67, hb68, cL]
        rw [hM72]
        exact ⟨rfl, (Ex.trans (Ex.trans (Ex.refl w) hE9) hE12)⟩
      ·have hb67p := dec_f hb67
       refine sy rfl rfl hb67 (yl_fieldAddr fd61_0 rfl rfl (sy rfl rfl hb67 (yl_load1 ty3 rfl rfl ((q14.cell 0).trans rfl) (sy rfl rfl hb67 (yl_eql rfl rfl rfl (sd rfl (yl_pick_f rfl rfl hb67 rfl (sM rfl (bcase (decide (p_o.Kind = 3)) (fun hb75 => ?_) (fun hb75 => ?_))))))))))
       ·have hb75p := dec_t hb75
        refine sz rfl rfl hb75 (sz rfl rfl hb75 (sz rfl rfl hb75 (sd rfl (yl_pick_t rfl rfl hb75 rfl (sM rfl (sy rfl rfl rfl (yl_fieldAddr fd61_2 rfl rfl (sy rfl rfl rfl (yl_load1 ty9 rfl rfl ((q14.cell 2).trans rfl) (sy rfl rfl rfl (yl_seql (a := p_o.Val) (b := ([] : Str)) rfl rfl rfl (sd rfl (yl_pick_t rfl rfl rfl rfl ?_)))))))))))))
        refine sM rfl (bcase (p_o.Val == ([] : Str)) (fun hb76 => ?_) (fun hb76 => ?_))
        ·refine sy rfl rfl hb76 (yl_fieldAddr fd61_3 rfl rfl (sy rfl rfl hb76 (yl_load1 ty3 rfl rfl ((q14.cell 3).trans rfl) (sy rfl rfl hb76 (yl_eql rfl rfl rfl (sd rfl (yl_pick_t rfl rfl hb76 rfl (sA rfl (dn (CW.ret (rr rfl (.cons rfl .nil) ?_)))))))))))
         have hM77 : (s_l5Op p_o) = (decide (p_o.By = 0)) := by simp only [s_l5Op, hb13, hb15, hb29, hb43, hb55, hb67, hb75, hb76, cL]
         rw [hM77]
         exact ⟨rfl, (Ex.trans (Ex.trans (Ex.refl w) hE9) hE12)⟩
        ·refine sz rfl rfl hb76 (sz rfl rfl hb76 (sz rfl rfl hb76 (sd rfl (yl_pick_f rfl rfl hb76 rfl (sA rfl (dn (CW.ret (rr rfl (.cons rfl .nil) ?_))))))))
         have hM80 : (s_l5Op p_o) = (false) := by simp only [s_l5Op, hb13, hb15, hb29, hb43, hb55, hb67, hb75, hb76, cL]
         rw [hM80]
         exact ⟨rfl, (Ex.trans (Ex.trans (Ex.refl w) hE9) hE12)⟩
       ·have hb75p := dec_f hb75
        refine sy rfl rfl hb75 (yl_fieldAddr fd61_0 rfl rfl (sy rfl rfl hb75 (yl_load1 ty3 rfl rfl ((q14.cell 0).trans rfl) (sy rfl rfl hb75 (yl_eql rfl rfl rfl (sd rfl (yl_pick_f rfl rfl hb75 rfl (sM rfl (bcase (decide (p_o.Kind = 6)) (fun hb83 => ?_) (fun hb83 => ?_))))))))))
        ·have hb83p := dec_t hb83
         refine sy rfl rfl hb83 (yl_fieldAddr fd61_2 rfl rfl (sy rfl rfl hb83 (yl_load1 ty9 rfl rfl ((q14.cell 2).trans rfl) (sy rfl rfl hb83 (yl_seql (a := p_o.Val) (b := ([] : Str)) rfl rfl rfl (sd rfl (yl_pick_t rfl rfl hb83 rfl (sM rfl (bcase (p_o.Val == ([] : Str)) (fun hb84 => ?_) (fun hb84 => ?_))))))))))
         ·refine sy rfl rfl hb84 (yl_fieldAddr fd61_3 rfl rfl (sy rfl rfl hb84 (yl_load1 ty3 rfl rfl ((q14.cell 3).trans rfl) (sy rfl rfl hb84 (yl_eql rfl rfl rfl (sd rfl (yl_pick_t rfl rfl hb84 rfl (sA rfl (dn (CW.ret (rr rfl (.cons rfl .nil) ?_)))))))))))
          have hM85 : (s_l5Op p_o) = (decide (p_o.By = 0)) := by simp only [s_l5Op, hb13, hb15, hb29, hb43, hb55, hb67, hb75, hb83, hb84, cL]
          rw [hM85]
          exact ⟨rfl, (Ex.trans (Ex.trans (Ex.refl w) hE9) hE12)⟩
         ·refine sz rfl rfl hb84 (sz rfl rfl hb84 (sz rfl rfl hb84 (sd rfl (yl_pick_f rfl rfl hb84 rfl (sA rfl (dn (CW.ret (rr rfl (.cons rfl .nil) ?_))))))))
          have hM88 : (s_l5Op p_o) = (false) := by simp only [s_l5Op, hb13, hb15, hb29, hb43, hb55, hb67, hb75, hb83, hb84, cL]
          rw [hM88]
          exact ⟨rfl, (Ex.trans (Ex.trans (Ex.refl w) hE9) hE12)⟩
        ·have hb83p := dec_f hb83
         refine sz rfl rfl hb83 (sz rfl rfl hb83 (sz rfl rfl hb83 (sd rfl (yl_pick_f rfl rfl hb83 rfl (sM rfl (sz rfl rfl rfl (sz rfl rfl rfl (sz rfl rfl rfl (sd rfl (yl_pick_f rfl rfl rfl rfl ?_))))))))))
         refine sA rfl (dn (CW.ret (rr rfl (.cons rfl .nil) ?_)))
         have hM91 : (s_l5Op p_o) = (false) := by simp only [s_l5Op, hb13, hb15, hb29, hb43, hb55, hb67, hb75, hb83, cL]
         rw [hM91]
         exact ⟨rfl, (Ex.trans (Ex.trans (Ex.refl w) hE9) hE12)⟩
 ·refine CW.cond_t rfl (not_f hb13) (cR (sA rfl (dn (CW.ret (tr (rr rfl (.cons rfl .nil) ?_))))))
  have hM94 : (s_l5Op p_o) = (false) := by simp only [s_l5Op, hb13, cL]
  rw [hM94]
  exact ⟨rfl, (Ex.trans (Ex.trans (Ex.refl w) hE9) hE12)⟩
theorem c_s_l5Good {A1 : Option Addr} {c1 : Nat} {w : World} (p_l : List DOp) (h1 : RdS w (Iv 0 w.heap.size) (RF e_Op) 4 A1 p_l.length c1 p_l) (o2 : (okL ok_Op) p_l) : Cal Tryz.prog 27 #[.slice A1 p_l.length c1] w fun v w' => v = .bool ((s_l5Good p_l)) ∧ Ex w w' := by
 have hol3 := o2.1
 refine Cal.of func27 rfl ntmps27 rfl (cR (sA rfl (dn (CW.seq (cR ?_)))))
 refine sM rfl (sd rfl (yL un31 rfl rfl (sM rfl (dn (CW.block (CW.loop (fun m19 L20 w21 => ∃ (k4 : Nat), m19 = p_l.length - k4 ∧ k4 ≤ p_l.length ∧ w.heap.size ≤ w21.heap.size ∧ lkp L20 0 = some (.slice A1 p_l.length c1) ∧ lkp L20 5 = some (.slice A1 p_l.length c1) ∧ lkp L20 6 = some (.int .i64 ((p_l.length : Int))) ∧ lkp L20 7 = some (.int .i64 ((k4 : Int))) ∧ RdS w21 (Iv 0 w.heap.size) (RF e_Op) 4 A1 p_l.length c1 p_l ∧ Ex w w21 ∧ loopM (B_s_l5Good_0 p_l) (p_l.length - k4) k4 () = loopM (B_s_l5Good_0 p_l) (p_l.length - 0) 0 ()) (p_l.length - 0) ?_ ?_))))))
 ·exact ⟨0, rfl, oM, Nat.le_refl _, rfl, rfl, rfl, rfl, h1, (Ex.refl w), rfl⟩
 ·rintro m22 L23 w24 ⟨k4, rfl, hk25, hsz27, hl28, hl29, hl30, hl31, hf32, hf33, hI26⟩
  refine CW.sub (Sub.cons hl28 (Sub.cons hl29 (Sub.cons hl30 (Sub.cons hl31 (Sub.nil _))))) ?_
  have hf33z := Ex.size hf33
  have hbg34 := RdS.big hf32
  rcases Nat.lt_or_ge k4 p_l.length with hlt35 | hlt35
  ·refine cR (sd rfl (yl_lss rfl rfl rfl (dn (CW.seq (CW.cond_t rfl (lt_t hlt35) (CW.skip (tn ?_)))))))
   refine CW.seq (CW.block (cR ?_))
   obtain ⟨eb36, eo36, _, eA36, _, ebl36, _, eR36, eC36⟩ := RdS.aD hf32 d_Op (i := k4)
   obtain rfl := eR36
   have eC36 : Cells w24 eb36 (eo36 + k4 * 4) [.int .i64 ((p_l.getD k4 d_Op).Kind), .string (bs ((p_l.getD k4 d_Op).Key)), .string (bs ((p_l.getD k4 d_Op).Val)), .int .i64 ((p_l.getD k4 d_Op).By)] := eC36
   refine sd rfl (yl_ixN un31 ty61 rfl rfl rfl eA36 (sd rfl (yl_loadN ty61 rfl rfl eC36 rfl (sd rfl (yB ty61 (cs := [.int .i64 (0), .string (bs (([] : Str))), .string (bs (([] : Str))), .int .i64 (0)]) rfl rfl ?_)))))
   intro b37 w38 hs39 hz40 hB41 hE42
   refine SeqR.u rfl rfl (yl_store (vs := [.int .i64 ((p_l.getD k4 d_Op).Kind), .string (bs ((p_l.getD k4 d_Op).Key)), .string (bs ((p_l.getD k4 d_Op).Val)), .int .i64 ((p_l.getD k4 d_Op).By)]) ty61 rfl rfl rfl rfl rfl rfl hB41 (nb rfl) ?_)
   intro w43 hB44 hO45
   have hB44 : Box w43 b37 61 [.int .i64 ((p_l.getD k4 d_Op).Kind), .string (bs ((p_l.getD k4 d_Op).Key)), .string (bs ((p_l.getD k4 d_Op).Val)), .int .i64 ((p_l.getD k4 d_Op).By)] := hB44
   have hO45z := hO45.size
   refine dn (cR (sd rfl (yl_loadN ty61 rfl rfl (hB44.cells (n := 4) rfl) rfl (sd rfl (yC en50 rfl (oc rfl oz) (Cal.mono (c_s_l5Op (p_l.getD k4 d_Op) (okL.getD o2 ok_d_Op _)) ?_))))))
   rintro v47 w46 ⟨rfl, hE48⟩
   have hE48z := Ex.size hE48
   refine sd rfl (yl_not rfl rfl (dn (bcase (s_l5Op (p_l.getD k4 d_Op)) (fun hb49 => ?_) (fun hb49 => ?_))))
   ·refine CW.cond_f rfl (not_t hb49) (CW.skip (bn (tn (CW.region (sd rfl (yl_inc rfl rfl rfl oM (sM rfl (dn ?_))))))))
    have hB50 : B_s_l5Good_0 p_l k4 () = .cont () := by simp only [B_s_l5Good_0, hb49, cL]
    exact ⟨p_l.length - (k4 + 1), oM, k4 + 1, rfl, hlt35, oM, rfl, rfl, rfl, rfl, (RdS.ex good_Op (RdS.only good_Op (RdS.ex good_Op hf32 hE42) hO45 (by simp only [Iv]; omega)) hE48), (Ex.trans (Below.only (Ex.trans hf33 hE42) hO45 oM) hE48), (loopM.cont hlt35 hB50).symm.trans hI26⟩
   ·refine CW.cond_t rfl (not_f hb49) (cR (sA rfl (dn (CW.ret (br (tr ?_))))))
    refine tr ?_
    have hB58 : B_s_l5Good_0 p_l k4 () = .ret false := by simp only [B_s_l5Good_0, hb49, cL]
    have hL57 : loopM (B_s_l5Good_0 p_l) (p_l.length - 0) 0 () = .ret false := hI26.symm.trans (loopM.ret hlt35 hB58)
    refine br (tr (rr rfl (.cons rfl .nil) ?_))
    have hM59 : (s_l5Good p_l) = (false) := by simp only [s_l5Good, hb49, hL57, cL]
    rw [hM59]
    exact ⟨rfl, (Ex.trans (Below.only (Ex.trans hf33 hE42) hO45 oM) hE48)⟩
  ·refine cR (sd rfl (yl_lss rfl rfl rfl (dn (CW.seq (CW.cond_f rfl (lt_f hlt35) (CW.exit (tx ?_)))))))
   refine tx ?_
   have hL63 : loopM (B_s_l5Good_0 p_l) (p_l.length - 0) 0 () = .done () := hI26.symm.trans (loopM.stop hlt35)
   refine bx (tn (cR (sM rfl (sd rfl (yL un31 rfl rfl (sd rfl (yl_leq rfl rfl rfl (sA rfl (SeqR.done ?_)))))))))
   refine tn (CW.ret (rr rfl (.cons rfl .nil) ?_))
   have hM64 : (s_l5Good p_l) = (decide ((p_l.length : Int) ≤ 8)) := by simp only [s_l5Good, hL63, cL]
   rw [hM64]
   exact ⟨rfl, hf33⟩
end Go.Proofs.YtfcofekfcmidoaaGreatDoor
