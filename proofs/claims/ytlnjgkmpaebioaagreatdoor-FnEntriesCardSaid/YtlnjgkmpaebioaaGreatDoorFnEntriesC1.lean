/- Fn Entries: what each call returns, part 1. -/
import Derived.Test.YtlnjgkmpaebioaaGreatDoorFnEntriesL
import Derived.Test.YtlnjgkmpaebioaaGreatDoorFnEntriesF
import Derived.Test.YtlnjgkmpaebioaaGreatDoorFnEntriesQ
import Derived.Test.YtlnjgkmpaebioaaGreatDoorFnEntriesS
set_option maxRecDepth 100000
set_option maxHeartbeats 2000000
open Go.Proofs.Tryz Go.Proofs.YtlnjgkmpaebioaaGreatDoor.Tryz
set_option linter.unusedVariables false
set_option linter.unusedSimpArgs false
namespace Go.Proofs.YtlnjgkmpaebioaaGreatDoor
open Go.RowKit Go.X
theorem c_u_next {A3 : Option Addr} {c3 : Nat} {slo3 shi3 : Nat} {b1 : Nat} {w : World} (pC : List Int) (p_c : Int × Int) (h2 : Box w b1 46 [.slice A3 pC.length c3, .int .i64 (p_c.1), .int .u64 (p_c.2)]) (h3 : RdS w (Iv slo3 shi3) (RF e_U8) 1 A3 pC.length c3 pC) (hrn4 : shi3 ≤ w.heap.size) (hrn5 : b1 < slo3 ∨ shi3 ≤ b1) (o6 : (okL okT) pC) (pre0 : (0 ≤ p_c.1 ∧ p_c.1 ≤ 4611686018427387903)) (pre1 : codeOk pC) : Cal Tryz.prog 66 #[.pointer (some ⟨b1, 0, none⟩)] w fun v w' => v = .int .i64 ((u_next pC p_c).1) ∧ (0 ≤ (u_next pC p_c).1 ∧ (u_next pC p_c).1 ≤ 255) ∧ (p_c.1 ≤ ((u_next pC p_c).2).1 ∧ ((u_next pC p_c).2).1 ≤ p_c.1 + 1) ∧ Box w' b1 46 [.slice A3 pC.length c3, .int .i64 (((u_next pC p_c).2).1), .int .u64 (((u_next pC p_c).2).2)] ∧ Chg (InR [(b1, b1 + 1)]) w w' := by
 have hol7 := o6.1
 have hbx8 := Box.lt h2
 have hcd := codeOk_at pre1 (p_c.1).toNat
 refine Cal.of func66 rfl ntmps66 rfl (CW.seq (CW.region (sd rfl (yA rfl rfl (dn (CW.seq (CW.region (sd rfl (yA rfl rfl ?_)))))))))
 refine dn (CW.seq (CW.seq (CW.drawsI 10 (vgetI ([.pointer (some ⟨b1, 0, none⟩), .pointer (some ⟨b1, 0, none⟩), .pointer (some ⟨b1, 0 + 1, none⟩), .int .i64 (p_c.1), .pointer (some ⟨b1, 0, none⟩), .pointer (some ⟨b1, 0, none⟩), .pointer (some ⟨b1, 0 + 0, none⟩), .slice A3 pC.length c3, .int .i64 ((pC.length : Int)), .bool (decide (p_c.1 < (pC.length : Int)))].map DetI)) Tryz.follows rfl rfl rfl rfl rfl rfl (vgetI_stable (stD _)) ⟨?_, ?_, ?_, ?_, ?_, ?_, ?_, ?_, ?_, ?_, trivial⟩ ?_)))
 ·exact oI rfl fun h => yM rfl (h.old 0 _ rfl rfl) kI
 ·exact oI rfl fun h => yl_nil rfl (h.dt 0 4 rfl rfl rfl) kI
 ·exact oI rfl fun h => yl_fieldAddr fd46_1 rfl (h.dt 1 5 rfl rfl rfl) kI
 ·exact oI rfl fun h => yl_load1 ty3 rfl (h.dt 2 6 rfl rfl rfl) (((Box.ex h2 h.ex).cell 1).trans rfl) kI
 ·exact oI rfl fun h => yM rfl (h.old 0 _ rfl rfl) kI
 ·exact oI rfl fun h => yl_nil rfl (h.dt 4 8 rfl rfl rfl) kI
 ·exact oI rfl fun h => yl_fieldAddr fd46_0 rfl (h.dt 5 9 rfl rfl rfl) kI
 ·exact oI rfl fun h => yl_load1 ty22 rfl (h.dt 6 10 rfl rfl rfl) (((Box.ex h2 h.ex).cell 0).trans rfl) kI
 ·exact oI rfl fun h => yL un22 rfl (h.dt 7 11 rfl rfl rfl) kI
 ·exact oI rfl fun h => yl_lss rfl (h.dt 3 7 rfl rfl rfl) (h.dt 8 12 rfl rfl rfl) kI
 ·intro fl65 fh66 L62 w63 hp64
  have hE67 := hp64.ex
  have hE67z := Ex.size hE67
  refine dn (CW.sub (Sub.cons (d := 0) (hp64.old 0 _ rfl rfl) (Sub.cons (d := 3) (hp64.old 3 _ rfl rfl) (Sub.cons (d := 13) (hp64.nt 9 13 rfl rfl rfl) (Sub.nil _)))) (bcase (decide (p_c.1 < (pC.length : Int))) (fun hb71 => ?_) (fun hb71 => ?_)))
  ·have hb71p := dec_t hb71
   refine CW.cond_t rfl hb71 ?_
   have q72 := Box.ex h2 hE67
   refine CW.drawsI 8 (vgetI ([.pointer (some ⟨b1, 0, none⟩), .pointer (some ⟨b1, 0, none⟩), .pointer (some ⟨b1, 0 + 0, none⟩), .slice A3 pC.length c3, .pointer (some ⟨b1, 0, none⟩), .pointer (some ⟨b1, 0, none⟩), .pointer (some ⟨b1, 0 + 1, none⟩), .int .i64 (p_c.1)].map DetI)) Tryz.follows rfl rfl rfl rfl rfl rfl (vgetI_stable (stD _)) ⟨?_, ?_, ?_, ?_, ?_, ?_, ?_, ?_, trivial⟩ ?_
   ·exact oI rfl fun h => yM rfl (h.old 0 _ rfl rfl) kI
   ·exact oI rfl fun h => yl_nil rfl (h.dt 0 14 rfl rfl rfl) kI
   ·exact oI rfl fun h => yl_fieldAddr fd46_0 rfl (h.dt 1 15 rfl rfl rfl) kI
   ·exact oI rfl fun h => yl_load1 ty22 rfl (h.dt 2 16 rfl rfl rfl) (((Box.ex q72 h.ex).cell 0).trans rfl) kI
   ·exact oI rfl fun h => yM rfl (h.old 0 _ rfl rfl) kI
   ·exact oI rfl fun h => yl_nil rfl (h.dt 4 18 rfl rfl rfl) kI
   ·exact oI rfl fun h => yl_fieldAddr fd46_1 rfl (h.dt 5 19 rfl rfl rfl) kI
   ·exact oI rfl fun h => yl_load1 ty3 rfl (h.dt 6 20 rfl rfl rfl) (((Box.ex q72 h.ex).cell 1).trans rfl) kI
   ·intro fl118 fh119 L115 w116 hp117
    have hE120 := hp117.ex
    have hE120z := Ex.size hE120
    obtain ⟨eb126, eo126, _, eA126, _, ebl126, _, eR126, eC126⟩ := RdS.atD (RdS.ex gU (RdS.ex gU h3 hE67) hE120) d_U8 (i := (p_c.1).toNat) (by first | omega | assumption | (simp only [wI] at *; omega))
    obtain rfl := eR126
    have eC126 : Cells w116 eb126 (eo126 + ((p_c.1).toNat) * 1) [.int .u8 ((pC.getD ((p_c.1).toNat) d_U8))] := eC126
    refine sd rfl (yl_indexAddr un22 ty5 rfl (hp117.nt 3 17 rfl rfl rfl) (hp117.nt 7 21 rfl rfl rfl) eA126 (by first | omega | assumption | (simp only [wI] at *; omega)) (by first | omega | assumption | (simp only [wI] at *; omega)) (sd rfl (yl_load1 ty5 rfl rfl (eC126 0 _ rfl) (sd rfl (yl_conv un5 un3 rfl rfl (sd rfl (yA rfl rfl (dn (CW.sub (Sub.cons (d := 0) (hp117.old 0 _ rfl rfl) (Sub.cons (d := 3) rfl (Sub.nil _))) (CW.seq (CW.region ?_)))))))))))
    refine sd rfl (yM rfl rfl (sd rfl (yl_nil rfl rfl (sd rfl (yl_fieldAddr fd46_1 rfl rfl ?_)))))
    have q127 := Box.ex q72 hE120
    refine sd rfl (yl_load1 ty3 rfl rfl ((q127.cell 1).trans rfl) (sd rfl (yl_add rfl rfl rfl (sd rfl (yl_nil rfl rfl (sd rfl (yl_fieldAddr fd46_1 rfl rfl (SeqR.u rfl rfl (yl_store (vs := [.int .i64 (IntKind.wrap .i64 (p_c.1 + 1))]) ty3 rfl rfl rfl rfl rfl rfl q127 (Nat.le_of_ble_eq_true rfl) ?_)))))))))
    intro w128 hB129 hO130
    have hB129 : Box w128 b1 46 [.slice A3 pC.length c3, .int .i64 (IntKind.wrap .i64 (p_c.1 + 1)), .int .u64 (p_c.2)] := hB129
    have hO130z := hO130.size
    refine dn (CW.seq (CW.region (sd rfl (yM rfl rfl (sd rfl (yM rfl rfl (sd rfl (yl_nil rfl rfl (sd rfl (yl_fieldAddr fd46_2 rfl rfl (sd rfl (yl_load1 ty44 rfl rfl ((hB129.cell 2).trans rfl) ?_))))))))))))
    refine sd rfl (yl_mul rfl rfl rfl (sd rfl (yM rfl rfl (sd rfl (yl_conv un3 un44 rfl rfl (sd rfl (yl_add rfl rfl rfl (sd rfl (yl_add rfl rfl rfl (sd rfl (yl_nil rfl rfl (sd rfl (yl_fieldAddr fd46_2 rfl rfl (SeqR.u rfl rfl (yl_store (vs := [.int .u64 (IntKind.wrap .u64 ((IntKind.wrap .u64 ((IntKind.wrap .u64 (p_c.2 * 6364136223846793005)) + (IntKind.wrap .u64 (IntKind.wrap .i64 (pC.getD ((p_c.1).toNat) d_U8))))) + 1442695040888963407))]) ty44 rfl rfl rfl rfl rfl rfl hB129 (Nat.le_of_ble_eq_true rfl) ?_)))))))))))))))
    intro w131 hB132 hO133
    have hB132 : Box w131 b1 46 [.slice A3 pC.length c3, .int .i64 (IntKind.wrap .i64 (p_c.1 + 1)), .int .u64 (IntKind.wrap .u64 ((IntKind.wrap .u64 ((IntKind.wrap .u64 (p_c.2 * 6364136223846793005)) + (IntKind.wrap .u64 (IntKind.wrap .i64 (pC.getD ((p_c.1).toNat) d_U8))))) + 1442695040888963407))] := hB132
    have hO133z := hO133.size
    refine dn (CW.seq (CW.seq (CW.drawsI 10 (vgetI ([.pointer (some ⟨b1, 0, none⟩), .pointer (some ⟨b1, 0, none⟩), .pointer (some ⟨b1, 0 + 1, none⟩), .int .i64 (IntKind.wrap .i64 (p_c.1 + 1)), .pointer (some ⟨b1, 0, none⟩), .pointer (some ⟨b1, 0, none⟩), .pointer (some ⟨b1, 0 + 0, none⟩), .slice A3 pC.length c3, .int .i64 ((pC.length : Int)), .bool (decide ((IntKind.wrap .i64 (p_c.1 + 1)) ≤ (pC.length : Int)))].map DetI)) Tryz.follows rfl rfl rfl rfl rfl rfl (vgetI_stable (stD _)) ⟨?_, ?_, ?_, ?_, ?_, ?_, ?_, ?_, ?_, ?_, trivial⟩ ?_)))
    ·exact oI rfl fun h => yM rfl (h.old 0 _ rfl rfl) kI
    ·exact oI rfl fun h => yl_nil rfl (h.dt 0 44 rfl rfl rfl) kI
    ·exact oI rfl fun h => yl_fieldAddr fd46_1 rfl (h.dt 1 45 rfl rfl rfl) kI
    ·exact oI rfl fun h => yl_load1 ty3 rfl (h.dt 2 46 rfl rfl rfl) (((Box.ex hB132 h.ex).cell 1).trans rfl) kI
    ·exact oI rfl fun h => yM rfl (h.old 0 _ rfl rfl) kI
    ·exact oI rfl fun h => yl_nil rfl (h.dt 4 48 rfl rfl rfl) kI
    ·exact oI rfl fun h => yl_fieldAddr fd46_0 rfl (h.dt 5 49 rfl rfl rfl) kI
    ·exact oI rfl fun h => yl_load1 ty22 rfl (h.dt 6 50 rfl rfl rfl) (((Box.ex hB132 h.ex).cell 0).trans rfl) kI
    ·exact oI rfl fun h => yL un22 rfl (h.dt 7 51 rfl rfl rfl) kI
    ·exact oI rfl fun h => yl_leq rfl (h.dt 3 47 rfl rfl rfl) (h.dt 8 52 rfl rfl rfl) kI
    ·intro fl190 fh191 L187 w188 hp189
     have hE192 := hp189.ex
     have hE192z := Ex.size hE192
     refine dn (CW.sub (Sub.cons (d := 0) (hp189.old 0 _ rfl rfl) (Sub.cons (d := 3) (hp189.old 3 _ rfl rfl) (Sub.cons (d := 53) (hp189.nt 9 53 rfl rfl rfl) (Sub.nil _)))) (bcase (decide ((IntKind.wrap .i64 (p_c.1 + 1)) ≤ (pC.length : Int))) (fun hb196 => ?_) (fun hb196 => ?_)))
     ·have hb196p := dec_t hb196
      refine CW.cond_t rfl hb196 (CW.seq (CW.region (sd rfl (yM rfl rfl (sd rfl (yA rfl rfl (dn (CW.ret (tr ?_)))))))))
      refine rr rfl (.cons rfl .nil) ?_
      have hM197 : (u_next pC p_c) = ((IntKind.wrap .i64 (pC.getD ((p_c.1).toNat) d_U8), (IntKind.wrap .i64 (p_c.1 + 1), IntKind.wrap .u64 ((IntKind.wrap .u64 ((IntKind.wrap .u64 (p_c.2 * 6364136223846793005)) + (IntKind.wrap .u64 (IntKind.wrap .i64 (pC.getD ((p_c.1).toNat) d_U8))))) + 1442695040888963407)))) := by first | (simp only [u_next, hb71, hb196, cL]; done) | (simp only [u_next, hb71, hb196, cond_true, cond_false, loopE_done, loopE_ret, pairE]; done) | exact (show (u_next pC p_c) = ((IntKind.wrap .i64 (pC.getD ((p_c.1).toNat) d_U8), (IntKind.wrap .i64 (p_c.1 + 1), IntKind.wrap .u64 ((IntKind.wrap .u64 ((IntKind.wrap .u64 (p_c.2 * 6364136223846793005)) + (IntKind.wrap .u64 (IntKind.wrap .i64 (pC.getD ((p_c.1).toNat) d_U8))))) + 1442695040888963407)))) from by simp only [u_next, hb71, hb196, cond_true, cond_false, loopE_done, loopE_ret, pairE])
      rw [hM197]
      exact ⟨rfl, (by (try dsimp only); first | omega | exact iand_u8 _ | (simp only [wI] at *; omega)), (by (try dsimp only); first | omega | exact iand_u8 _ | (simp only [wI] at *; omega)), (Box.ex hB132 hE192), (Chg.tex (Chg.tonly (Chg.tonly (Chg.tex (Chg.tex (Chg.refl (InR [(b1, b1 + 1)]) w) hE67) hE120) hO130 (by simp only [InR, or_false]; omega)) hO133 (by simp only [InR, or_false]; omega)) hE192)⟩
     ·have hb196p := dec_f hb196
      refine CW.cond_f rfl hb196 (CW.skip (tn (CW.seq (CW.region (sd rfl (yM rfl rfl (sd rfl (yl_nil rfl rfl (sd rfl (yl_fieldAddr fd46_2 rfl rfl ?_))))))))))
      have q204 := Box.ex hB132 hE192
      refine sd rfl (yl_load1 ty44 rfl rfl ((q204.cell 2).trans rfl) (sd rfl (yl_shr (q := 1099511627776) rfl rfl rfl (by decide) (by decide) (by decide) (sd rfl (yl_and rfl rfl rfl (sd rfl (yl_conv un44 un3 rfl rfl (sd rfl (yA rfl rfl (dn (CW.ret (rr rfl (.cons rfl .nil) ?_))))))))))))
      have hM205 : (u_next pC p_c) = ((IntKind.wrap .i64 (iand .u64 (Int.fdiv (IntKind.wrap .u64 ((IntKind.wrap .u64 ((IntKind.wrap .u64 (p_c.2 * 6364136223846793005)) + (IntKind.wrap .u64 (IntKind.wrap .i64 (pC.getD ((p_c.1).toNat) d_U8))))) + 1442695040888963407)) 1099511627776) 255), (IntKind.wrap .i64 (p_c.1 + 1), IntKind.wrap .u64 ((IntKind.wrap .u64 ((IntKind.wrap .u64 (p_c.2 * 6364136223846793005)) + (IntKind.wrap .u64 (IntKind.wrap .i64 (pC.getD ((p_c.1).toNat) d_U8))))) + 1442695040888963407)))) := by first | (simp only [u_next, hb71, hb196, cL]; done) | (simp only [u_next, hb71, hb196, cond_true, cond_false, loopE_done, loopE_ret, pairE]; done) | exact (show (u_next pC p_c) = ((IntKind.wrap .i64 (iand .u64 (Int.fdiv (IntKind.wrap .u64 ((IntKind.wrap .u64 ((IntKind.wrap .u64 (p_c.2 * 6364136223846793005)) + (IntKind.wrap .u64 (IntKind.wrap .i64 (pC.getD ((p_c.1).toNat) d_U8))))) + 1442695040888963407)) 1099511627776) 255), (IntKind.wrap .i64 (p_c.1 + 1), IntKind.wrap .u64 ((IntKind.wrap .u64 ((IntKind.wrap .u64 (p_c.2 * 6364136223846793005)) + (IntKind.wrap .u64 (IntKind.wrap .i64 (pC.getD ((p_c.1).toNat) d_U8))))) + 1442695040888963407)))) from by simp only [u_next, hb71, hb196, cond_true, cond_false, loopE_done, loopE_ret, pairE])
      rw [hM205]
      exact ⟨rfl, (by (try dsimp only); first | omega | exact iand_u8 _ | (simp only [wI] at *; omega)), (by (try dsimp only); first | omega | exact iand_u8 _ | (simp only [wI] at *; omega)), q204, (Chg.tex (Chg.tonly (Chg.tonly (Chg.tex (Chg.tex (Chg.refl (InR [(b1, b1 + 1)]) w) hE67) hE120) hO130 (by simp only [InR, or_false]; omega)) hO133 (by simp only [InR, or_false]; omega)) hE192)⟩
  ·have hb71p := dec_f hb71
   refine CW.cond_f rfl hb71 (CW.skip (tn (CW.seq (CW.region (sd rfl (yM rfl rfl (sd rfl (yl_nil rfl rfl (sd rfl (yl_fieldAddr fd46_1 rfl rfl ?_))))))))))
   have q211 := Box.ex h2 hE67
   refine sd rfl (yl_load1 ty3 rfl rfl ((q211.cell 1).trans rfl) (sd rfl (yl_add rfl rfl rfl (sd rfl (yl_nil rfl rfl (sd rfl (yl_fieldAddr fd46_1 rfl rfl (SeqR.u rfl rfl (yl_store (vs := [.int .i64 (IntKind.wrap .i64 (p_c.1 + 1))]) ty3 rfl rfl rfl rfl rfl rfl q211 (Nat.le_of_ble_eq_true rfl) ?_)))))))))
   intro w212 hB213 hO214
   have hB213 : Box w212 b1 46 [.slice A3 pC.length c3, .int .i64 (IntKind.wrap .i64 (p_c.1 + 1)), .int .u64 (p_c.2)] := hB213
   have hO214z := hO214.size
   refine dn (CW.seq (CW.region (sd rfl (yM rfl rfl (sd rfl (yM rfl rfl (sd rfl (yl_nil rfl rfl (sd rfl (yl_fieldAddr fd46_2 rfl rfl (sd rfl (yl_load1 ty44 rfl rfl ((hB213.cell 2).trans rfl) ?_))))))))))))
   refine sd rfl (yl_mul rfl rfl rfl (sd rfl (yM rfl rfl (sd rfl (yl_conv un3 un44 rfl rfl (sd rfl (yl_add rfl rfl rfl (sd rfl (yl_add rfl rfl rfl (sd rfl (yl_nil rfl rfl (sd rfl (yl_fieldAddr fd46_2 rfl rfl (SeqR.u rfl rfl (yl_store (vs := [.int .u64 (IntKind.wrap .u64 ((IntKind.wrap .u64 ((IntKind.wrap .u64 (p_c.2 * 6364136223846793005)) + (IntKind.wrap .u64 0))) + 1442695040888963407))]) ty44 rfl rfl rfl rfl rfl rfl hB213 (Nat.le_of_ble_eq_true rfl) ?_)))))))))))))))
   intro w215 hB216 hO217
   have hB216 : Box w215 b1 46 [.slice A3 pC.length c3, .int .i64 (IntKind.wrap .i64 (p_c.1 + 1)), .int .u64 (IntKind.wrap .u64 ((IntKind.wrap .u64 ((IntKind.wrap .u64 (p_c.2 * 6364136223846793005)) + (IntKind.wrap .u64 0))) + 1442695040888963407))] := hB216
   have hO217z := hO217.size
   refine dn (CW.seq (CW.seq (CW.drawsI 10 (vgetI ([.pointer (some ⟨b1, 0, none⟩), .pointer (some ⟨b1, 0, none⟩), .pointer (some ⟨b1, 0 + 1, none⟩), .int .i64 (IntKind.wrap .i64 (p_c.1 + 1)), .pointer (some ⟨b1, 0, none⟩), .pointer (some ⟨b1, 0, none⟩), .pointer (some ⟨b1, 0 + 0, none⟩), .slice A3 pC.length c3, .int .i64 ((pC.length : Int)), .bool (decide ((IntKind.wrap .i64 (p_c.1 + 1)) ≤ (pC.length : Int)))].map DetI)) Tryz.follows rfl rfl rfl rfl rfl rfl (vgetI_stable (stD _)) ⟨?_, ?_, ?_, ?_, ?_, ?_, ?_, ?_, ?_, ?_, trivial⟩ ?_)))
   ·exact oI rfl fun h => yM rfl (h.old 0 _ rfl rfl) kI
   ·exact oI rfl fun h => yl_nil rfl (h.dt 0 44 rfl rfl rfl) kI
   ·exact oI rfl fun h => yl_fieldAddr fd46_1 rfl (h.dt 1 45 rfl rfl rfl) kI
   ·exact oI rfl fun h => yl_load1 ty3 rfl (h.dt 2 46 rfl rfl rfl) (((Box.ex hB216 h.ex).cell 1).trans rfl) kI
   ·exact oI rfl fun h => yM rfl (h.old 0 _ rfl rfl) kI
   ·exact oI rfl fun h => yl_nil rfl (h.dt 4 48 rfl rfl rfl) kI
   ·exact oI rfl fun h => yl_fieldAddr fd46_0 rfl (h.dt 5 49 rfl rfl rfl) kI
   ·exact oI rfl fun h => yl_load1 ty22 rfl (h.dt 6 50 rfl rfl rfl) (((Box.ex hB216 h.ex).cell 0).trans rfl) kI
   ·exact oI rfl fun h => yL un22 rfl (h.dt 7 51 rfl rfl rfl) kI
   ·exact oI rfl fun h => yl_leq rfl (h.dt 3 47 rfl rfl rfl) (h.dt 8 52 rfl rfl rfl) kI
   ·intro fl274 fh275 L271 w272 hp273
    have hE276 := hp273.ex
    have hE276z := Ex.size hE276
    refine dn (CW.sub (Sub.cons (d := 0) (hp273.old 0 _ rfl rfl) (Sub.cons (d := 3) (hp273.old 3 _ rfl rfl) (Sub.cons (d := 53) (hp273.nt 9 53 rfl rfl rfl) (Sub.nil _)))) (bcase (decide ((IntKind.wrap .i64 (p_c.1 + 1)) ≤ (pC.length : Int))) (fun hb280 => ?_) (fun hb280 => ?_)))
    ·have hb280p := dec_t hb280
     refine CW.cond_t rfl hb280 (CW.seq (CW.region (sd rfl (yM rfl rfl (sd rfl (yA rfl rfl (dn (CW.ret (tr ?_)))))))))
     refine rr rfl (.cons rfl .nil) ?_
     have hM281 : (u_next pC p_c) = ((0, (IntKind.wrap .i64 (p_c.1 + 1), IntKind.wrap .u64 ((IntKind.wrap .u64 ((IntKind.wrap .u64 (p_c.2 * 6364136223846793005)) + (IntKind.wrap .u64 0))) + 1442695040888963407)))) := by first | (simp only [u_next, hb71, hb280, cL]; done) | (simp only [u_next, hb71, hb280, cond_true, cond_false, loopE_done, loopE_ret, pairE]; done) | exact (show (u_next pC p_c) = ((0, (IntKind.wrap .i64 (p_c.1 + 1), IntKind.wrap .u64 ((IntKind.wrap .u64 ((IntKind.wrap .u64 (p_c.2 * 6364136223846793005)) + (IntKind.wrap .u64 0))) + 1442695040888963407)))) from by simp only [u_next, hb71, hb280, cond_true, cond_false, loopE_done, loopE_ret, pairE])
     rw [hM281]
     exact ⟨rfl, (by (try dsimp only); first | omega | exact iand_u8 _ | (simp only [wI] at *; omega)), (by (try dsimp only); first | omega | exact iand_u8 _ | (simp only [wI] at *; omega)), (Box.ex hB216 hE276), (Chg.tex (Chg.tonly (Chg.tonly (Chg.tex (Chg.refl (InR [(b1, b1 + 1)]) w) hE67) hO214 (by simp only [InR, or_false]; omega)) hO217 (by simp only [InR, or_false]; omega)) hE276)⟩
    ·have hb280p := dec_f hb280
     refine CW.cond_f rfl hb280 (CW.skip (tn (CW.seq (CW.region (sd rfl (yM rfl rfl (sd rfl (yl_nil rfl rfl (sd rfl (yl_fieldAddr fd46_2 rfl rfl ?_))))))))))
     have q287 := Box.ex hB216 hE276
     refine sd rfl (yl_load1 ty44 rfl rfl ((q287.cell 2).trans rfl) (sd rfl (yl_shr (q := 1099511627776) rfl rfl rfl (by decide) (by decide) (by decide) (sd rfl (yl_and rfl rfl rfl (sd rfl (yl_conv un44 un3 rfl rfl (sd rfl (yA rfl rfl (dn (CW.ret (rr rfl (.cons rfl .nil) ?_))))))))))))
     have hM288 : (u_next pC p_c) = ((IntKind.wrap .i64 (iand .u64 (Int.fdiv (IntKind.wrap .u64 ((IntKind.wrap .u64 ((IntKind.wrap .u64 (p_c.2 * 6364136223846793005)) + (IntKind.wrap .u64 0))) + 1442695040888963407)) 1099511627776) 255), (IntKind.wrap .i64 (p_c.1 + 1), IntKind.wrap .u64 ((IntKind.wrap .u64 ((IntKind.wrap .u64 (p_c.2 * 6364136223846793005)) + (IntKind.wrap .u64 0))) + 1442695040888963407)))) := by first | (simp only [u_next, hb71, hb280, cL]; done) | (simp only [u_next, hb71, hb280, cond_true, cond_false, loopE_done, loopE_ret, pairE]; done) | exact (show (u_next pC p_c) = ((IntKind.wrap .i64 (iand .u64 (Int.fdiv (IntKind.wrap .u64 ((IntKind.wrap .u64 ((IntKind.wrap .u64 (p_c.2 * 6364136223846793005)) + (IntKind.wrap .u64 0))) + 1442695040888963407)) 1099511627776) 255), (IntKind.wrap .i64 (p_c.1 + 1), IntKind.wrap .u64 ((IntKind.wrap .u64 ((IntKind.wrap .u64 (p_c.2 * 6364136223846793005)) + (IntKind.wrap .u64 0))) + 1442695040888963407)))) from by simp only [u_next, hb71, hb280, cond_true, cond_false, loopE_done, loopE_ret, pairE])
     rw [hM288]
     exact ⟨rfl, (by (try dsimp only); first | omega | exact iand_u8 _ | (simp only [wI] at *; omega)), (by (try dsimp only); first | omega | exact iand_u8 _ | (simp only [wI] at *; omega)), q287, (Chg.tex (Chg.tonly (Chg.tonly (Chg.tex (Chg.refl (InR [(b1, b1 + 1)]) w) hE67) hO214 (by simp only [InR, or_false]; omega)) hO217 (by simp only [InR, or_false]; omega)) hE276)⟩
theorem c_u_pick {A3 : Option Addr} {c3 : Nat} {slo3 shi3 : Nat} {b1 : Nat} {w : World} (pC : List Int) (p_c : Int × Int) (p_n : Int) (h2 : Box w b1 46 [.slice A3 pC.length c3, .int .i64 (p_c.1), .int .u64 (p_c.2)]) (h3 : RdS w (Iv slo3 shi3) (RF e_U8) 1 A3 pC.length c3 pC) (hrn4 : shi3 ≤ w.heap.size) (hrn5 : b1 < slo3 ∨ shi3 ≤ b1) (o6 : (okL okT) pC) (pre0 : (0 ≤ p_c.1 ∧ p_c.1 ≤ 4611686018427387902)) (pre1 : codeOk pC) : Cal Tryz.prog 39 #[.pointer (some ⟨b1, 0, none⟩), .int .i64 (p_n)] w fun v w' => v = .int .i64 ((u_pick pC p_c p_n).1) ∧ (0 ≤ (u_pick pC p_c p_n).1 ∧ (u_pick pC p_c p_n).1 ≤ 65535 ∧ ((u_pick pC p_c p_n).1 < p_n ∨ ((p_n : Int) ≤ 0 ∧ (u_pick pC p_c p_n).1 = 0))) ∧ (p_c.1 ≤ ((u_pick pC p_c p_n).2).1 ∧ ((u_pick pC p_c p_n).2).1 ≤ p_c.1 + 2) ∧ Box w' b1 46 [.slice A3 pC.length c3, .int .i64 (((u_pick pC p_c p_n).2).1), .int .u64 (((u_pick pC p_c p_n).2).2)] ∧ Chg (InR [(b1, b1 + 1)]) w w' := by
 have hol7 := o6.1
 have hbx8 := Box.lt h2
 refine Cal.of func39 rfl ntmps39 rfl (CW.seq (CW.region (sd rfl (yA rfl rfl (dn (CW.seq (CW.seq (CW.region ?_))))))))
 refine sd rfl (yM rfl rfl (sd rfl (yl_leq rfl rfl rfl (dn (bcase (decide (p_n ≤ 1)) (fun hb9 => ?_) (fun hb9 => ?_))))))
 ·have hb9p := dec_t hb9
  refine CW.cond_t rfl hb9 (CW.seq (CW.region (sd rfl (yA rfl rfl (dn (CW.ret (tr (rr rfl (.cons rfl .nil) ?_))))))))
  have hM10 : (u_pick pC p_c p_n) = ((0, (p_c.1, p_c.2))) := by first | (simp only [u_pick, hb9, cL]; done) | (simp only [u_pick, hb9, cond_true, cond_false, loopE_done, loopE_ret, pairE]; done) | exact (show (u_pick pC p_c p_n) = ((0, p_c)) from by simp only [u_pick, hb9, cond_true, cond_false, loopE_done, loopE_ret, pairE])
  rw [hM10]
  exact ⟨rfl, (by (try dsimp only); first | omega | assumption | (simp only [wI] at *; omega)), (by (try dsimp only); first | omega | assumption | (simp only [wI] at *; omega)), h2, (Chg.refl (InR [(b1, b1 + 1)]) w)⟩
 ·have hb9p := dec_f hb9
  refine CW.cond_f rfl hb9 (CW.skip (tn (CW.seq (CW.region (sd rfl (yM rfl rfl (sd rfl (yC en66 rfl (oc rfl oz) (Cal.mono (c_u_next pC p_c h2 h3 (by omega) (by omega) o6 (by omega) (by assumption)) ?_)))))))))
  rintro v14 w11 ⟨rfl, hp12, hp13, hB16, hc15⟩
  have hc15z := Chg.size hc15
  have hB16z := Box.lt hB16
  refine sd rfl (yA rfl rfl (dn (CW.seq (CW.seq (CW.region (sd rfl (yM rfl rfl (sd rfl (yl_gtr rfl rfl rfl (SeqR.done ?_))))))))))
  refine tn (bcase (decide (200 < p_n)) (fun hb17 => ?_) (fun hb17 => ?_))
  ·have hb17p := dec_t hb17
   refine CW.cond_t rfl hb17 (CW.region (sd rfl (yM rfl rfl (sd rfl (yl_mul rfl rfl rfl (sd rfl (yM rfl rfl (sd rfl (yC en66 rfl (oc rfl oz) (Cal.mono (c_u_next pC ((u_next pC p_c).2) hB16 (RdS.chg gU h3 hc15 (fun k hl hk => by simp only [InR, or_false, Iv, Ge] at hk ⊢; omega)) (by omega) (by omega) o6 (by omega) (by assumption)) ?_))))))))))
   rintro v22 w19 ⟨rfl, hp20, hp21, hB24, hc23⟩
   have hc23z := Chg.size hc23
   have hB24z := Box.lt hB24
   refine sd rfl (yl_add rfl rfl rfl (sd rfl (yA rfl rfl (dn (CW.seq (CW.region (sd rfl (yM rfl rfl (sd rfl (yM rfl rfl ?_))))))))))
   have hrm25 := tmod_rng (a := (IntKind.wrap .i64 ((IntKind.wrap .i64 (((u_next pC p_c).1) * 256)) + ((u_next pC ((u_next pC p_c).2)).1)))) (b := p_n) (by first | omega | assumption | (simp only [wI] at *; omega)) (by first | omega | assumption | (simp only [wI] at *; omega))
   refine sd rfl (yl_rem rfl rfl rfl (by first | omega | assumption | (simp only [wI] at *; omega)) (sd rfl (yA rfl rfl (dn (CW.ret (rr rfl (.cons rfl .nil) ?_))))))
   have hM26 : (u_pick pC p_c p_n) = ((Int.tmod (IntKind.wrap .i64 ((IntKind.wrap .i64 (((u_next pC p_c).1) * 256)) + ((u_next pC ((u_next pC p_c).2)).1))) p_n, (((u_next pC ((u_next pC p_c).2)).2).1, ((u_next pC ((u_next pC p_c).2)).2).2))) := by first | (simp only [u_pick, hb9, hb17, cL]; done) | (simp only [u_pick, hb9, hb17, cond_true, cond_false, loopE_done, loopE_ret, pairE]; done) | exact (show (u_pick pC p_c p_n) = ((Int.tmod (IntKind.wrap .i64 ((IntKind.wrap .i64 (((u_next pC p_c).1) * 256)) + ((u_next pC ((u_next pC p_c).2)).1))) p_n, ((u_next pC ((u_next pC p_c).2)).2))) from by simp only [u_pick, hb9, hb17, cond_true, cond_false, loopE_done, loopE_ret, pairE])
   rw [hM26]
   exact ⟨rfl, (by (try dsimp only); first | omega | assumption | (simp only [wI] at *; omega)), (by (try dsimp only); first | omega | assumption | (simp only [wI] at *; omega)), hB24, (Chg.tchg (Chg.tchg (Chg.refl (InR [(b1, b1 + 1)]) w) hc15 (fun k hk => by simp only [InR, or_false] at hk ⊢; omega)) hc23 (fun k hk => by simp only [InR, or_false] at hk ⊢; omega))⟩
  ·have hb17p := dec_f hb17
   refine CW.cond_f rfl hb17 (CW.skip (tn (CW.seq (CW.region (sd rfl (yM rfl rfl (sd rfl (yM rfl rfl ?_))))))))
   have hrm29 := tmod_rng (a := ((u_next pC p_c).1)) (b := p_n) (by first | omega | assumption | (simp only [wI] at *; omega)) (by first | omega | assumption | (simp only [wI] at *; omega))
   refine sd rfl (yl_rem rfl rfl rfl (by first | omega | assumption | (simp only [wI] at *; omega)) (sd rfl (yA rfl rfl (dn (CW.ret (rr rfl (.cons rfl .nil) ?_))))))
   have hM30 : (u_pick pC p_c p_n) = ((Int.tmod ((u_next pC p_c).1) p_n, (((u_next pC p_c).2).1, ((u_next pC p_c).2).2))) := by first | (simp only [u_pick, hb9, hb17, cL]; done) | (simp only [u_pick, hb9, hb17, cond_true, cond_false, loopE_done, loopE_ret, pairE]; done) | exact (show (u_pick pC p_c p_n) = ((Int.tmod ((u_next pC p_c).1) p_n, ((u_next pC p_c).2))) from by simp only [u_pick, hb9, hb17, cond_true, cond_false, loopE_done, loopE_ret, pairE])
   rw [hM30]
   exact ⟨rfl, (by (try dsimp only); first | omega | assumption | (simp only [wI] at *; omega)), (by (try dsimp only); first | omega | assumption | (simp only [wI] at *; omega)), hB16, (Chg.tchg (Chg.refl (InR [(b1, b1 + 1)]) w) hc15 (fun k hk => by simp only [InR, or_false] at hk ⊢; omega))⟩
theorem c_u_of {A3 : Option Addr} {c3 : Nat} {slo3 shi3 : Nat} {b1 : Nat} {A7 : Option Addr} {c7 : Nat} {slo7 shi7 : Nat} {w : World} (pC : List Int) (p_c : Int × Int) (p_list : List Str) (h2 : Box w b1 46 [.slice A3 pC.length c3, .int .i64 (p_c.1), .int .u64 (p_c.2)]) (h3 : RdS w (Iv slo3 shi3) (RF e_U8) 1 A3 pC.length c3 pC) (hrn4 : shi3 ≤ w.heap.size) (hrn5 : b1 < slo3 ∨ shi3 ≤ b1) (h7 : RdS w (Iv slo7 shi7) (RF e_Str) 1 A7 p_list.length c7 p_list) (hrn8 : shi7 ≤ w.heap.size) (hrn9 : b1 < slo7 ∨ shi7 ≤ b1) (o6 : (okL okT) pC) (o10 : (okL okS) p_list) (pre0 : 0 < p_list.length) (pre1 : (0 ≤ p_c.1 ∧ p_c.1 ≤ 4611686018427387902)) (pre2 : codeOk pC) : Cal Tryz.prog 17 #[.pointer (some ⟨b1, 0, none⟩), .slice A7 p_list.length c7] w fun v w' => v = .string (bs ((u_of pC p_c p_list).1)) ∧ okS ((u_of pC p_c p_list).1) ∧ (p_c.1 ≤ ((u_of pC p_c p_list).2).1 ∧ ((u_of pC p_c p_list).2).1 ≤ p_c.1 + 2) ∧ Box w' b1 46 [.slice A3 pC.length c3, .int .i64 (((u_of pC p_c p_list).2).1), .int .u64 (((u_of pC p_c p_list).2).2)] ∧ Chg (InR [(b1, b1 + 1)]) w w' := by
 have hol11 := o6.1
 have hbx12 := Box.lt h2
 have hol13 := o10.1
 refine Cal.of func17 rfl ntmps17 rfl (CW.seq (CW.region (sd rfl (yA rfl rfl (dn (CW.seq (CW.region (sd rfl (yM rfl rfl ?_)))))))))
 refine sd rfl (yM rfl rfl (sd rfl (yM rfl rfl (sd rfl (yL un23 rfl rfl (sd rfl (yC en39 rfl (oc rfl (oc rfl oz)) (Cal.mono (c_u_pick pC p_c (p_list.length : Int) h2 h3 (by omega) (by omega) o6 (by omega) (by assumption)) ?_))))))))
 rintro v17 w14 ⟨rfl, hp15, hp16, hB19, hc18⟩
 have hc18z := Chg.size hc18
 have hB19z := Box.lt hB19
 obtain ⟨eb21, eo21, _, eA21, _, ebl21, _, eR21, eC21⟩ := RdS.atD (RdS.chg gS h7 hc18 (fun k hl hk => by simp only [InR, or_false, Iv, Ge] at hk ⊢; omega)) d_Str (i := ((u_pick pC p_c (p_list.length : Int)).1).toNat) (by first | omega | assumption | (simp only [wI] at *; omega))
 obtain rfl := eR21
 have eC21 : Cells w14 eb21 (eo21 + (((u_pick pC p_c (p_list.length : Int)).1).toNat) * 1) [.string (bs ((p_list.getD (((u_pick pC p_c (p_list.length : Int)).1).toNat) d_Str)))] := eC21
 refine sd rfl (yl_indexAddr un23 ty9 rfl rfl rfl eA21 (by first | omega | assumption | (simp only [wI] at *; omega)) (by first | omega | assumption | (simp only [wI] at *; omega)) (sd rfl (yl_load1 ty9 rfl rfl (eC21 0 _ rfl) (sd rfl (yA rfl rfl (dn (CW.ret (rr rfl (.cons rfl .nil) ?_))))))))
 have hM22 : (u_of pC p_c p_list) = (((p_list.getD (((u_pick pC p_c (p_list.length : Int)).1).toNat) d_Str), (((u_pick pC p_c (p_list.length : Int)).2).1, ((u_pick pC p_c (p_list.length : Int)).2).2))) := by first | (simp only [u_of, cL]; done) | (simp only [u_of, cond_true, cond_false, loopE_done, loopE_ret, pairE]; done) | exact (show (u_of pC p_c p_list) = (((p_list.getD (((u_pick pC p_c (p_list.length : Int)).1).toNat) d_Str), ((u_pick pC p_c (p_list.length : Int)).2))) from by simp only [u_of, cond_true, cond_false, loopE_done, loopE_ret, pairE])
 rw [hM22]
 exact ⟨rfl, (okL.getD o10 ok_d_Str _), (by (try dsimp only); first | omega | assumption | (simp only [wI] at *; omega)), hB19, (Chg.tchg (Chg.refl (InR [(b1, b1 + 1)]) w) hc18 (fun k hk => by simp only [InR, or_false] at hk ⊢; omega))⟩
theorem c_u_one {A3 : Option Addr} {c3 : Nat} {slo3 shi3 : Nat} {b1 : Nat} {w : World} (pC : List Int) (p_c : Int × Int) (p_n : Int) (h2 : Box w b1 46 [.slice A3 pC.length c3, .int .i64 (p_c.1), .int .u64 (p_c.2)]) (h3 : RdS w (Iv slo3 shi3) (RF e_U8) 1 A3 pC.length c3 pC) (hrn4 : shi3 ≤ w.heap.size) (hrn5 : b1 < slo3 ∨ shi3 ≤ b1) (o6 : (okL okT) pC) (pre0 : (0 ≤ p_c.1 ∧ p_c.1 ≤ 4611686018427387902)) (pre1 : codeOk pC) : Cal Tryz.prog 20 #[.pointer (some ⟨b1, 0, none⟩), .int .i64 (p_n)] w fun v w' => v = .bool ((u_one pC p_c p_n).1) ∧ (p_c.1 ≤ ((u_one pC p_c p_n).2).1 ∧ ((u_one pC p_c p_n).2).1 ≤ p_c.1 + 2) ∧ Box w' b1 46 [.slice A3 pC.length c3, .int .i64 (((u_one pC p_c p_n).2).1), .int .u64 (((u_one pC p_c p_n).2).2)] ∧ Chg (InR [(b1, b1 + 1)]) w w' := by
 have hol7 := o6.1
 have hbx8 := Box.lt h2
 refine Cal.of func20 rfl ntmps20 rfl (CW.seq (CW.region (sd rfl (yA rfl rfl (dn (CW.seq (CW.region (sd rfl (yM rfl rfl ?_)))))))))
 refine sd rfl (yM rfl rfl (sd rfl (yC en39 rfl (oc rfl (oc rfl oz)) (Cal.mono (c_u_pick pC p_c p_n h2 h3 (by omega) (by omega) o6 (by omega) (by assumption)) ?_))))
 rintro v12 w9 ⟨rfl, hp10, hp11, hB14, hc13⟩
 have hc13z := Chg.size hc13
 have hB14z := Box.lt hB14
 refine sd rfl (yl_eql rfl rfl rfl (sd rfl (yA rfl rfl (dn (CW.ret (rr rfl (.cons rfl .nil) ?_))))))
 have hM15 : (u_one pC p_c p_n) = ((decide (((u_pick pC p_c p_n).1) = 0), (((u_pick pC p_c p_n).2).1, ((u_pick pC p_c p_n).2).2))) := by first | (simp only [u_one, cL]; done) | (simp only [u_one, cond_true, cond_false, loopE_done, loopE_ret, pairE]; done) | exact (show (u_one pC p_c p_n) = ((decide (((u_pick pC p_c p_n).1) = 0), ((u_pick pC p_c p_n).2))) from by simp only [u_one, cond_true, cond_false, loopE_done, loopE_ret, pairE])
 rw [hM15]
 exact ⟨rfl, (by (try dsimp only); first | omega | assumption | (simp only [wI] at *; omega)), hB14, (Chg.tchg (Chg.refl (InR [(b1, b1 + 1)]) w) hc13 (fun k hk => by simp only [InR, or_false] at hk ⊢; omega))⟩
theorem c_u_table {A3 : Option Addr} {c3 : Nat} {slo3 shi3 : Nat} {b1 : Nat} {w : World} (pC : List Int) (p_c : Int × Int) (h2 : Box w b1 46 [.slice A3 pC.length c3, .int .i64 (p_c.1), .int .u64 (p_c.2)]) (h3 : RdS w (Iv slo3 shi3) (RF e_U8) 1 A3 pC.length c3 pC) (hrn4 : shi3 ≤ w.heap.size) (hrn5 : b1 < slo3 ∨ shi3 ≤ b1) (o6 : (okL okT) pC) (pre0 : (0 ≤ p_c.1 ∧ p_c.1 ≤ 4611686018427387840)) (pre1 : codeOk pC) : Cal Tryz.prog 18 #[.pointer (some ⟨b1, 0, none⟩)] w fun v w' => ∃ A_1 c_1 lo_1 hi_1 A_2 c_2 lo_2 hi_2, v = .agg #[.string (bs ((u_table pC p_c).1.Name)), .slice A_1 (((u_table pC p_c).1.Cols).length) c_1, .slice A_2 (((u_table pC p_c).1.Idxs).length) c_2] ∧ OwnL w' lo_1 hi_1 9 1 (RF e_Str) A_1 (((u_table pC p_c).1.Cols).length) c_1 ((u_table pC p_c).1.Cols) ∧ OwnL w' lo_2 hi_2 64 3 (RF e_Idx) A_2 (((u_table pC p_c).1.Idxs).length) c_2 ((u_table pC p_c).1.Idxs) ∧ ok_Table ((u_table pC p_c).1) ∧ ((u_table pC p_c).1).Name.length ≤ 1 ∧ (2 ≤ ((u_table pC p_c).1).Cols.length ∧ ((u_table pC p_c).1).Cols.length ≤ 4 ∧ ((u_table pC p_c).1).Idxs.length ≤ 3) ∧ (p_c.1 ≤ ((u_table pC p_c).2).1 ∧ ((u_table pC p_c).2).1 ≤ p_c.1 + 64) ∧ Box w' b1 46 [.slice A3 pC.length c3, .int .i64 (((u_table pC p_c).2).1), .int .u64 (((u_table pC p_c).2).2)] ∧ (w.heap.size ≤ lo_1 ∧ lo_1 ≤ hi_1 ∧ hi_1 ≤ w'.heap.size) ∧ (w.heap.size ≤ lo_2 ∧ lo_2 ≤ hi_2 ∧ hi_2 ≤ w'.heap.size) ∧ (hi_1 ≤ lo_2 ∨ hi_2 ≤ lo_1) ∧ Chg (InR [(b1, b1 + 1)]) w w' := by
 have hol7 := o6.1
 have hbx8 := Box.lt h2
 refine Cal.of func18 rfl ntmps18 rfl (CW.seq (CW.region (sd rfl (yB ty26 (cs := [.string (bs (([] : Str))), .slice none 0 0, .slice none 0 0]) rfl rfl ?_))))
 intro b9 w10 hs11 hz12 hB13 hE14
 refine dn (CW.seq (CW.region (sd rfl (yl_buildSlice (cs := [.string (bs (([107] : Str))), .string (bs (([97] : Str))), .string (bs (([98] : Str))), .string (bs (([99, 99] : Str)))]) un23 ty9 (by decide) rfl (oc rfl (oc rfl (oc rfl (oc rfl oz)))) (by kernel_rfl) ?_))))
 intro b15 w16 hs17 hz18 hB19 hE20
 have hO21 : OwnL w16 b15 (b15 + 1) 9 1 (RF e_Str) (some ⟨b15, 0, none⟩) 4 4 ([[107], [97], [98], [99, 99]] : List Str) := OwnL.of_box (S := fun _ => False) hB19 (Nat.le_refl _) (Nat.lt_succ_self _) (EncL.cons (c := [.string (bs (([107] : Str)))]) rfl rfl (EncL.cons (c := [.string (bs (([97] : Str)))]) rfl rfl (EncL.cons (c := [.string (bs (([98] : Str)))]) rfl rfl (EncL.cons (c := [.string (bs (([99, 99] : Str)))]) rfl rfl EncL.nil)))) (Nat.le_of_ble_eq_true rfl) (fun h => h) (fun _ h => False.elim h)
 refine sd rfl (yA rfl rfl (dn (CW.seq (CW.region (sd rfl (yM rfl rfl (sd rfl (yl_buildSlice (cs := [.string (bs (([116] : Str))), .string (bs (([117] : Str)))]) un23 ty9 (by decide) rfl (oc rfl (oc rfl oz)) (by kernel_rfl) ?_))))))))
 intro b22 w23 hs24 hz25 hB26 hE27
 have hO28 : OwnL w23 b22 (b22 + 1) 9 1 (RF e_Str) (some ⟨b22, 0, none⟩) 2 2 ([[116], [117]] : List Str) := OwnL.of_box (S := fun _ => False) hB26 (Nat.le_refl _) (Nat.lt_succ_self _) (EncL.cons (c := [.string (bs (([116] : Str)))]) rfl rfl (EncL.cons (c := [.string (bs (([117] : Str)))]) rfl rfl EncL.nil)) (Nat.le_of_ble_eq_true rfl) (fun h => h) (fun _ h => False.elim h)
 have q34 := RdS.ex gU (RdS.ex gU (RdS.ex gU h3 hE14) hE20) hE27
 have hle35 := OwnL.len hO28
 refine sd rfl (yC en17 rfl (oc rfl (oc rfl oz)) (Cal.mono (Cal.args (by rw [← hle35] <;> rfl) (c_u_of pC p_c ([[116], [117]] : List Str) (Box.ex (Box.ex (Box.ex h2 hE14) hE20) hE27) q34 (by omega) (by omega) (RdS.fix (OwnL.rdI gS hO28)) (by omega) (by omega) o6 (okL.mk (Nat.le_of_ble_eq_true rfl) (okE.cons (okS.lit rfl) (okE.cons (okS.lit rfl) okE.nil))) (by first | omega | assumption | (simp only [wI] at *; omega) | (simp only [lN]; omega)) (by omega) (by assumption))) ?_))
 rintro v39 w36 ⟨rfl, ho37, hp38, hB41, hc40⟩
 have hc40z := Chg.size hc40
 have hB41z := Box.lt hB41
 have hrf42 := of_len 1 pC p_c ([[116], [117]] : List Str) (by decide)
 refine sd rfl (yl_buildSlice (cs := []) un23 ty9 (by decide) rfl opvs_nil (by kernel_rfl) ?_)
 intro b43 w44 hs45 hz46 hB47 hE48
 have hO49 : OwnL w44 b43 (b43 + 1) 9 1 (RF e_Str) (some ⟨b43, 0, none⟩) 0 0 ([] : List Str) := OwnL.of_box (S := fun _ => False) hB47 (Nat.le_refl _) (Nat.lt_succ_self _) EncL.nil (Nat.le_of_ble_eq_true rfl) (fun h => h) (fun _ h => False.elim h)
 refine sd rfl (yM rfl rfl (sd rfl (yM rfl rfl ?_)))
 have q52 := RdS.ex gU (RdS.chg gU q34 hc40 (fun k hl hk => by simp only [InR, or_false, Iv, Ge] at hk ⊢; omega)) hE48
 refine sd rfl (yC en39 rfl (oc rfl (oc rfl oz)) (Cal.mono (c_u_pick pC ((u_of pC p_c ([[116], [117]] : List Str)).2) 3 (Box.ex hB41 hE48) q52 (by omega) (by omega) o6 (by omega) (by assumption)) ?_))
 rintro v56 w53 ⟨rfl, hp54, hp55, hB58, hc57⟩
 have hc57z := Chg.size hc57
 have hB58z := Box.lt hB58
 refine sd rfl (yl_add rfl rfl rfl ?_)
 have q64 := OwnL.rdI gS (OwnL.chg gS (OwnL.ex gS (OwnL.chg gS (OwnL.ex gS hO21 hE27) hc40 (fun k hl hk => by simp only [InR, or_false] at hk; omega)) hE48) hc57 (fun k hl hk => by simp only [InR, or_false] at hk; omega))
 obtain ⟨A65, c66, he69, h68⟩ := RdS.sl (RdS.drop (RdS.take q64 (k := (IntKind.wrap .i64 (2 + ((u_pick pC ((u_of pC p_c ([[116], [117]] : List Str)).2) 3).1))).toNat) (by first | omega | assumption | (simp only [wI] at *; omega))) (k := 0) (by first | omega | assumption | (simp only [wI] at *; omega)))
 have hrc70 := (q64).2.1
 refine sd rfl (yl_sliceR (kl := .i64) (l := 0) (h := (IntKind.wrap .i64 (2 + ((u_pick pC ((u_of pC p_c ([[116], [117]] : List Str)).2) 3).1))).toNat) un23 ty9 rfl rfl (.inl ⟨rfl, rfl⟩) (.inr ⟨_, rfl, (toNat_op rfl (by first | omega | assumption | (simp only [wI] at *; omega)))⟩) (by first | omega | assumption | (simp only [wI] at *; omega)) (by first | omega | assumption | (simp only [wI] at *; omega)) he69 ?_)
 obtain ⟨nw72, he73, hs74⟩ := RdS.src h68
 have hol75 : (([[107], [97], [98], [99, 99]] : List Str).take ((IntKind.wrap .i64 (2 + ((u_pick pC ((u_of pC p_c ([[116], [117]] : List Str)).2) 3).1))).toNat)).length ≤ 2147483648 := (okL.take (okL.mk (Nat.le_of_ble_eq_true rfl) (okE.cons (okS.lit rfl) (okE.cons (okS.lit rfl) (okE.cons (okS.lit rfl) (okE.cons (okS.lit rfl) okE.nil))))) _).1
 refine sd rfl (yl_appendP (S := fun _ => False) (lo := b43) (hi := (b43 + 1)) (xs := ([] : List Str)) (ys := (([[107], [97], [98], [99, 99]] : List Str).take ((IntKind.wrap .i64 (2 + ((u_pick pC ((u_of pC p_c ([[116], [117]] : List Str)).2) 3).1))).toNat))) un23 ty9 rfl (Nat.le_of_ble_eq_true rfl) (fun _ => rfl) rfl rfl rfl (OwnL.chg gS hO49 hc57 (fun k hl hk => by simp only [InR, or_false] at hk; omega)) he73 hs74 rfl (by first | omega | (simp only [lN, toS_length]; omega)) (by first | omega | (simp only [lN, toS_length]; omega)) (by omega) (by omega) (by omega) ?_)
 intro A76 c77 w78 row79 lp80 hp81 hO82 hG83 hrg84 hdj85
 have hG83z := hG83.size
 refine sd rfl (yl_build (cs := [.string (bs ((u_of pC p_c ([[116], [117]] : List Str)).1)), .slice A76 ((([] : List Str) ++ (([[107], [97], [98], [99, 99]] : List Str).take ((IntKind.wrap .i64 (2 + ((u_pick pC ((u_of pC p_c ([[116], [117]] : List Str)).2) 3).1))).toNat))).length) c77, .slice none 0 0]) rfl (oc rfl (oc rfl oz)) (by kernel_rfl) (sd rfl (yB ty26 (cs := [.string (bs (([] : Str))), .slice none 0 0, .slice none 0 0]) rfl rfl ?_)))
 intro b86 w87 hs88 hz89 hB90 hE91
 refine SeqR.u rfl rfl (yl_store (vs := [.string (bs ((u_of pC p_c ([[116], [117]] : List Str)).1)), .slice A76 ((([] : List Str) ++ (([[107], [97], [98], [99, 99]] : List Str).take ((IntKind.wrap .i64 (2 + ((u_pick pC ((u_of pC p_c ([[116], [117]] : List Str)).2) 3).1))).toNat))).length) c77, .slice none 0 0]) ty26 rfl rfl rfl rfl rfl rfl hB90 (Nat.le_of_ble_eq_true rfl) ?_)
 intro w92 hB93 hO94
 have hB93 : Box w92 b86 26 [.string (bs ((u_of pC p_c ([[116], [117]] : List Str)).1)), .slice A76 ((([] : List Str) ++ (([[107], [97], [98], [99, 99]] : List Str).take ((IntKind.wrap .i64 (2 + ((u_pick pC ((u_of pC p_c ([[116], [117]] : List Str)).2) 3).1))).toNat))).length) c77, .slice none 0 0] := hB93
 have hO94z := hO94.size
 refine dn (CW.seq (CW.seq (CW.region (sd rfl (yl_buildSlice (cs := [.string (bs (([105] : Str))), .string (bs (([106] : Str))), .string (bs (([109] : Str)))]) un23 ty9 (by decide) rfl (oc rfl (oc rfl (oc rfl oz))) (by kernel_rfl) ?_)))))
 intro b95 w96 hs97 hz98 hB99 hE100
 have hO101 : OwnL w96 b95 (b95 + 1) 9 1 (RF e_Str) (some ⟨b95, 0, none⟩) 3 3 ([[105], [106], [109]] : List Str) := OwnL.of_box (S := fun _ => False) hB99 (Nat.le_refl _) (Nat.lt_succ_self _) (EncL.cons (c := [.string (bs (([105] : Str)))]) rfl rfl (EncL.cons (c := [.string (bs (([106] : Str)))]) rfl rfl (EncL.cons (c := [.string (bs (([109] : Str)))]) rfl rfl EncL.nil))) (Nat.le_of_ble_eq_true rfl) (fun h => h) (fun _ h => False.elim h)
 refine sd rfl (yL un23 rfl rfl (sd rfl (yM rfl rfl (dn (CW.block ?_)))))
 have q188 := Box.ex (Box.ex hB13 hE20) hE27
 have q190 := Box.ex (Box.chg q188 hc40 (by have := Box.lt q188; simp only [InR, or_false]; omega)) hE48
 have q209 := Chg.tex (Chg.tonly (Chg.tex (Chg.tgrown (Chg.tchg (Chg.tex (Chg.tchg (Chg.tex (Chg.tex (Chg.tex (Chg.refl (InR [(b1, b1 + 1)]) w) hE14) hE20) hE27) hc40 (fun k hk => by simp only [InR, or_false] at hk ⊢; omega)) hE48) hc57 (fun k hk => by simp only [InR, or_false] at hk ⊢; omega)) hG83 (fun k hk => by have := hrg84 k hk; simp only [InR, or_false]; omega)) hE91) hO94 (by simp only [InR, or_false]; omega)) hE100
 refine CW.loop (fun m175 L176 w177 => ∃ (k102 : Nat) (x168 : Int) (x169 : Int) (x170 : List DIdx) (A171 : Option Addr) (c172 : Nat) (u173 : Nat) (lo174 : Nat), m175 = 3 - k102 ∧ k102 ≤ 3 ∧ w96.heap.size ≤ w177.heap.size ∧ lkp L176 0 = some (.pointer (some ⟨b1, 0, none⟩)) ∧ lkp L176 2 = some (.pointer (some ⟨b9, 0, none⟩)) ∧ lkp L176 4 = some (.pointer (some ⟨b86, 0, none⟩)) ∧ lkp L176 19 = some (.slice (some ⟨b95, 0, none⟩) 3 3) ∧ lkp L176 20 = some (.int .i64 ((3 : Int))) ∧ lkp L176 21 = some (.int .i64 ((k102 : Int))) ∧ Box w177 b1 46 [.slice A3 pC.length c3, .int .i64 (x168), .int .u64 (x169)] ∧ RdS w177 (Iv slo3 shi3) (RF e_U8) 1 A3 pC.length c3 pC ∧ Box w177 b9 26 [.string (bs (([] : Str))), .slice none 0 0, .slice none 0 0] ∧ Box w177 b86 26 [.string (bs ((u_of pC p_c ([[116], [117]] : List Str)).1)), .slice A76 ((([] : List Str) ++ (([[107], [97], [98], [99, 99]] : List Str).take ((IntKind.wrap .i64 (2 + ((u_pick pC ((u_of pC p_c ([[116], [117]] : List Str)).2) 3).1))).toNat))).length) c77, .slice A171 x170.length c172] ∧ OwnL w177 lp80 hp81 9 1 (RF e_Str) A76 ((([] : List Str) ++ (([[107], [97], [98], [99, 99]] : List Str).take ((IntKind.wrap .i64 (2 + ((u_pick pC ((u_of pC p_c ([[116], [117]] : List Str)).2) 3).1))).toNat))).length) c77 (([] : List Str) ++ (([[107], [97], [98], [99, 99]] : List Str).take ((IntKind.wrap .i64 (2 + ((u_pick pC ((u_of pC p_c ([[116], [117]] : List Str)).2) 3).1))).toNat))) ∧ OwnL w177 lo174 u173 64 3 (RF e_Idx) A171 x170.length c172 x170 ∧ OwnL w177 b95 (b95 + 1) 9 1 (RF e_Str) (some ⟨b95, 0, none⟩) 3 3 ([[105], [106], [109]] : List Str) ∧ Chg (InR [(b1, b1 + 1)]) w w177 ∧ (w96.heap.size ≤ lo174 ∧ lo174 ≤ u173 ∧ u173 ≤ w177.heap.size ∧ (b1 < lo174 ∨ u173 ≤ b1) ∧ (b9 < lo174 ∨ u173 ≤ b9) ∧ (b86 < lo174 ∨ u173 ≤ b86) ∧ (hp81 ≤ lo174 ∨ u173 ≤ lp80) ∧ ((b95 + 1) ≤ lo174 ∨ u173 ≤ b95)) ∧ x170.length ≤ 0 + 1 * (k102 - 0) ∧ (∀ y ∈ x170, ok_Idx y) ∧ (p_c.1 ≤ x168 ∧ x168 ≤ p_c.1 + 4 + 8 * (k102 : Int)) ∧ loopM (B_u_table_0 pC p_c) (3 - k102) k102 (x168, x169, x170) = loopM (B_u_table_0 pC p_c) (3 - 0) 0 (((u_pick pC ((u_of pC p_c ([[116], [117]] : List Str)).2) 3).2).1, ((u_pick pC ((u_of pC p_c ([[116], [117]] : List Str)).2) 3).2).2, ([] : List DIdx))) (3 - 0) ?_ ?_
 ·exact ⟨0, ((u_pick pC ((u_of pC p_c ([[116], [117]] : List Str)).2) 3).2).1, ((u_pick pC ((u_of pC p_c ([[116], [117]] : List Str)).2) 3).2).2, ([] : List DIdx), none, 0, w96.heap.size, w96.heap.size, rfl, (by omega), Nat.le_refl _, rfl, rfl, rfl, rfl, rfl, rfl, (Box.ex (Box.only (Box.ex (Box.grown hB58 hG83 (fun k hk => by have := hrg84 k hk; omega)) hE91) hO94 (by omega)) hE100), (RdS.ex gU (RdS.only gU (RdS.ex gU (RdS.grown gU (RdS.chg gU q52 hc57 (fun k hl hk => by simp only [InR, or_false, Iv, Ge] at hk ⊢; omega)) hG83 (fun k hk => by have := hrg84 k hk; simp only [Iv]; omega)) hE91) hO94 (by simp only [Iv]; omega)) hE100), (Box.ex (Box.only (Box.ex (Box.grown (Box.chg q190 hc57 (by have := Box.lt q190; simp only [InR, or_false]; omega)) hG83 (fun k hk => by have := hrg84 k hk; omega)) hE91) hO94 (by omega)) hE100), (Box.ex hB93 hE100), (OwnL.ex gS (OwnL.only gS (OwnL.ex gS hO82 hE91) hO94 (by omega)) hE100), (OwnL.nil w96 w96.heap.size w96.heap.size 64 3 (RF e_Idx)), hO101, q209, (by omega), (by first | (simp; done) | (first | omega | (simp only [lN, toS_length]; omega))), okE.nil, (by first | omega | assumption | (simp only [wI] at *; omega)), rfl⟩
 ·rintro m210 L211 w212 ⟨k102, x168, x169, x170, A171, c172, u173, lo174, rfl, hk213, hsz215, hl216, hl217, hl218, hl219, hl220, hl221, hf222, hf223, hf224, hf225, hf226, hf227, hf228, hf229, hu230, hln231, hok232, hv233, hI214⟩
  refine CW.sub (Sub.cons hl216 (Sub.cons hl217 (Sub.cons hl218 (Sub.cons hl219 (Sub.cons hl220 (Sub.cons hl221 (Sub.nil _))))))) ?_
  have hf222z := Box.lt hf222
  have hf224z := Box.lt hf224
  have hf225z := Box.lt hf225
  have hf229z := Chg.size hf229
  rcases Nat.lt_or_ge k102 3 with hlt234 | hlt234
  ·refine CW.seq (CW.region (sd rfl (yl_lss rfl rfl rfl (dn (CW.seq (CW.cond_t rfl (lt_t hlt234) (CW.skip (tn ?_))))))))
   refine CW.seq (CW.block (CW.seq (CW.region ?_)))
   obtain ⟨eb236, eo236, _, eA236, _, ebl236, _, eR236, eC236⟩ := RdS.atD (OwnL.rd gS hf228) d_Str (i := k102) (by first | omega | assumption | (simp only [wI] at *; omega))
   obtain rfl := eR236
   have eC236 : Cells w212 eb236 (eo236 + k102 * 1) [.string (bs ((([[105], [106], [109]] : List Str).getD k102 d_Str)))] := eC236
   refine sd rfl (yl_ixN un23 ty9 rfl rfl rfl eA236 (sd rfl (yl_load1 ty9 rfl rfl (eC236 0 _ rfl) (sd rfl (yA rfl rfl (dn (CW.seq (CW.region (sd rfl (yM rfl rfl (sd rfl (yC en20 rfl (oc rfl (oc rfl oz)) (Cal.mono (c_u_one pC (x168, x169) 3 hf222 hf223 (by omega) (by omega) o6 (by omega) (by assumption)) ?_)))))))))))))
   rintro v239 w237 ⟨rfl, hp238, hB241, hc240⟩
   have hc240z := Chg.size hc240
   have hB241z := Box.lt hB241
   refine sd rfl (yl_not rfl rfl (sd rfl (yM rfl rfl (bcase ((u_one pC (x168, x169) 3).1) (fun hb242 => ?_) (fun hb242 => ?_)))))
   ·refine sy rfl rfl (not_t hb242) (yM rfl rfl (sy rfl rfl (not_t hb242) (yl_seql (a := (([[105], [106], [109]] : List Str).getD k102 d_Str)) (b := ([105] : Str)) rfl rfl rfl (sy rfl rfl (not_t hb242) (yM rfl rfl (bcase ((([[105], [106], [109]] : List Str).getD k102 d_Str) == ([105] : Str)) (fun hb243 => ?_) (fun hb243 => ?_)))))))
    ·refine sy rfl rfl hb243 (yM rfl rfl ?_)
     have q244 := RdS.chg gU hf223 hc240 (fun k hl hk => by simp only [InR, or_false, Iv, Ge] at hk ⊢; omega)
     refine sy rfl rfl hb243 (yC en20 rfl (oc rfl (oc rfl oz)) (Cal.mono (c_u_one pC ((u_one pC (x168, x169) 3).2) 8 hB241 q244 (by omega) (by omega) o6 (by omega) (by assumption)) ?_))
     rintro v247 w245 ⟨rfl, hp246, hB249, hc248⟩
     have hc248z := Chg.size hc248
     have hB249z := Box.lt hB249
     refine sy rfl rfl hb243 (yl_not rfl rfl (sy rfl rfl (not_t hb242) (yl_pick_t rfl rfl hb243 rfl (sd rfl (yl_pick_f rfl rfl (not_t hb242) rfl (dn (bcase ((u_one pC ((u_one pC (x168, x169) 3).2) 8).1) (fun hb250 => ?_) (fun hb250 => ?_))))))))
     ·refine CW.cond_f rfl (not_t hb250) (CW.skip (bn (tn (CW.region (sd rfl (yl_inc rfl rfl rfl (by omega) (sd rfl (yM rfl rfl (dn ?_)))))))))
      have hB251 : B_u_table_0 pC p_c k102 (x168, x169, x170) = .cont (((u_one pC ((u_one pC (x168, x169) 3).2) 8).2).1, ((u_one pC ((u_one pC (x168, x169) 3).2) 8).2).2, x170) := by simp only [B_u_table_0, hb242, hb243, hb250, cL]
      have q253 := Box.chg hf224 hc240 (by have := Box.lt hf224; simp only [InR, or_false]; omega)
      have q255 := Box.chg hf225 hc240 (by have := Box.lt hf225; simp only [InR, or_false]; omega)
      exact ⟨3 - (k102 + 1), by omega, k102 + 1, ((u_one pC ((u_one pC (x168, x169) 3).2) 8).2).1, ((u_one pC ((u_one pC (x168, x169) 3).2) 8).2).2, x170, A171, c172, u173, lo174, rfl, hlt234, (by omega), rfl, rfl, rfl, rfl, rfl, rfl, hB249, (RdS.chg gU q244 hc248 (fun k hl hk => by simp only [InR, or_false, Iv, Ge] at hk ⊢; omega)), (Box.chg q253 hc248 (by have := Box.lt q253; simp only [InR, or_false]; omega)), (Box.chg q255 hc248 (by have := Box.lt q255; simp only [InR, or_false]; omega)), (OwnL.chg gS (OwnL.chg gS hf226 hc240 (fun k hl hk => by simp only [InR, or_false] at hk; omega)) hc248 (fun k hl hk => by simp only [InR, or_false] at hk; omega)), (OwnL.chg gI (OwnL.chg gI hf227 hc240 (fun k hl hk => by simp only [InR, or_false] at hk; omega)) hc248 (fun k hl hk => by simp only [InR, or_false] at hk; omega)), (OwnL.chg gS (OwnL.chg gS hf228 hc240 (fun k hl hk => by simp only [InR, or_false] at hk; omega)) hc248 (fun k hl hk => by simp only [InR, or_false] at hk; omega)), (Chg.tchg (Chg.tchg hf229 hc240 (fun k hk => by simp only [InR, or_false] at hk ⊢; omega)) hc248 (fun k hk => by simp only [InR, or_false] at hk ⊢; omega)), (by omega), (by first | omega | (simp only [lN, toS_length]; omega)), hok232, (by first | omega | assumption | (simp only [wI] at *; omega)), (loopM.cont hlt234 hB251).symm.trans hI214⟩
     ·refine CW.cond_t rfl (not_f hb250) ?_
      have q265 := Box.chg hf225 hc240 (by have := Box.lt hf225; simp only [InR, or_false]; omega)
      have q266 := Box.chg q265 hc248 (by have := Box.lt q265; simp only [InR, or_false]; omega)
      have q267 := RdS.chg gU q244 hc248 (fun k hl hk => by simp only [InR, or_false, Iv, Ge] at hk ⊢; omega)
      refine CW.drawsG 14 (fun G b => (G.dn 8 = true ∧ InR [(b1, b1 + 1)] b) ∨ (G.dn 11 = true ∧ InR [(b1, b1 + 1)] b)) (fun i G b => (i = 8 ∧ b1 ≤ b ∧ b < b1 + 1) ∨ (i = 11 ∧ b1 ≤ b ∧ b < b1 + 1)) (vgetG [DetG (.pointer (some ⟨b86, 0 + 2, none⟩)), DetG (.slice A171 x170.length c172), DetG (.string (bs ((([[105], [106], [109]] : List Str).getD k102 d_Str)))), DetG (.pointer (some ⟨b1, 0, none⟩)), DetG (.pointer (some ⟨b86, 0 + 1, none⟩)), DetG (.slice A76 ((([] : List Str) ++ (([[107], [97], [98], [99, 99]] : List Str).take ((IntKind.wrap .i64 (2 + ((u_pick pC ((u_of pC p_c ([[116], [117]] : List Str)).2) 3).1))).toNat))).length) c77), DetG (.int .i64 (((([] : List Str) ++ (([[107], [97], [98], [99, 99]] : List Str).take ((IntKind.wrap .i64 (2 + ((u_pick pC ((u_of pC p_c ([[116], [117]] : List Str)).2) 3).1))).toNat))).length : Int))), DetG (.int .i64 (IntKind.wrap .i64 (((([] : List Str) ++ (([[107], [97], [98], [99, 99]] : List Str).take ((IntKind.wrap .i64 (2 + ((u_pick pC ((u_of pC p_c ([[116], [117]] : List Str)).2) 3).1))).toNat))).length : Int) - 1))), fun G v wq => v = .int .i64 ((u_pick pC ((u_one pC ((u_one pC (x168, x169) 3).2) 8).2) (IntKind.wrap .i64 (((([] : List Str) ++ (([[107], [97], [98], [99, 99]] : List Str).take ((IntKind.wrap .i64 (2 + ((u_pick pC ((u_of pC p_c ([[116], [117]] : List Str)).2) 3).1))).toNat))).length : Int) - 1))).1) ∧ (0 ≤ (u_pick pC ((u_one pC ((u_one pC (x168, x169) 3).2) 8).2) (IntKind.wrap .i64 (((([] : List Str) ++ (([[107], [97], [98], [99, 99]] : List Str).take ((IntKind.wrap .i64 (2 + ((u_pick pC ((u_of pC p_c ([[116], [117]] : List Str)).2) 3).1))).toNat))).length : Int) - 1))).1 ∧ (u_pick pC ((u_one pC ((u_one pC (x168, x169) 3).2) 8).2) (IntKind.wrap .i64 (((([] : List Str) ++ (([[107], [97], [98], [99, 99]] : List Str).take ((IntKind.wrap .i64 (2 + ((u_pick pC ((u_of pC p_c ([[116], [117]] : List Str)).2) 3).1))).toNat))).length : Int) - 1))).1 ≤ 65535 ∧ ((u_pick pC ((u_one pC ((u_one pC (x168, x169) 3).2) 8).2) (IntKind.wrap .i64 (((([] : List Str) ++ (([[107], [97], [98], [99, 99]] : List Str).take ((IntKind.wrap .i64 (2 + ((u_pick pC ((u_of pC p_c ([[116], [117]] : List Str)).2) 3).1))).toNat))).length : Int) - 1))).1 < IntKind.wrap .i64 (((([] : List Str) ++ (([[107], [97], [98], [99, 99]] : List Str).take ((IntKind.wrap .i64 (2 + ((u_pick pC ((u_of pC p_c ([[116], [117]] : List Str)).2) 3).1))).toNat))).length : Int) - 1) ∨ ((IntKind.wrap .i64 (((([] : List Str) ++ (([[107], [97], [98], [99, 99]] : List Str).take ((IntKind.wrap .i64 (2 + ((u_pick pC ((u_of pC p_c ([[116], [117]] : List Str)).2) 3).1))).toNat))).length : Int) - 1) : Int) ≤ 0 ∧ (u_pick pC ((u_one pC ((u_one pC (x168, x169) 3).2) 8).2) (IntKind.wrap .i64 (((([] : List Str) ++ (([[107], [97], [98], [99, 99]] : List Str).take ((IntKind.wrap .i64 (2 + ((u_pick pC ((u_of pC p_c ([[116], [117]] : List Str)).2) 3).1))).toNat))).length : Int) - 1))).1 = 0))) ∧ (((u_one pC ((u_one pC (x168, x169) 3).2) 8).2).1 ≤ ((u_pick pC ((u_one pC ((u_one pC (x168, x169) 3).2) 8).2) (IntKind.wrap .i64 (((([] : List Str) ++ (([[107], [97], [98], [99, 99]] : List Str).take ((IntKind.wrap .i64 (2 + ((u_pick pC ((u_of pC p_c ([[116], [117]] : List Str)).2) 3).1))).toNat))).length : Int) - 1))).2).1 ∧ ((u_pick pC ((u_one pC ((u_one pC (x168, x169) 3).2) 8).2) (IntKind.wrap .i64 (((([] : List Str) ++ (([[107], [97], [98], [99, 99]] : List Str).take ((IntKind.wrap .i64 (2 + ((u_pick pC ((u_of pC p_c ([[116], [117]] : List Str)).2) 3).1))).toNat))).length : Int) - 1))).2).1 ≤ ((u_one pC ((u_one pC (x168, x169) 3).2) 8).2).1 + 2) ∧ (G.dn 11 = false → Box wq b1 46 [.slice A3 pC.length c3, .int .i64 (((u_pick pC ((u_one pC ((u_one pC (x168, x169) 3).2) 8).2) (IntKind.wrap .i64 (((([] : List Str) ++ (([[107], [97], [98], [99, 99]] : List Str).take ((IntKind.wrap .i64 (2 + ((u_pick pC ((u_of pC p_c ([[116], [117]] : List Str)).2) 3).1))).toNat))).length : Int) - 1))).2).1), .int .u64 (((u_pick pC ((u_one pC ((u_one pC (x168, x169) 3).2) 8).2) (IntKind.wrap .i64 (((([] : List Str) ++ (([[107], [97], [98], [99, 99]] : List Str).take ((IntKind.wrap .i64 (2 + ((u_pick pC ((u_of pC p_c ([[116], [117]] : List Str)).2) 3).1))).toNat))).length : Int) - 1))).2).2)]), DetG (.int .i64 (IntKind.wrap .i64 (1 + ((u_pick pC ((u_one pC ((u_one pC (x168, x169) 3).2) 8).2) (IntKind.wrap .i64 (((([] : List Str) ++ (([[107], [97], [98], [99, 99]] : List Str).take ((IntKind.wrap .i64 (2 + ((u_pick pC ((u_of pC p_c ([[116], [117]] : List Str)).2) 3).1))).toNat))).length : Int) - 1))).1)))), DetG (.pointer (some ⟨b1, 0, none⟩)), fun G v wq => v = .int .i64 ((u_pick pC ((u_pick pC ((u_one pC ((u_one pC (x168, x169) 3).2) 8).2) (IntKind.wrap .i64 (((([] : List Str) ++ (([[107], [97], [98], [99, 99]] : List Str).take ((IntKind.wrap .i64 (2 + ((u_pick pC ((u_of pC p_c ([[116], [117]] : List Str)).2) 3).1))).toNat))).length : Int) - 1))).2) 4).1) ∧ (0 ≤ (u_pick pC ((u_pick pC ((u_one pC ((u_one pC (x168, x169) 3).2) 8).2) (IntKind.wrap .i64 (((([] : List Str) ++ (([[107], [97], [98], [99, 99]] : List Str).take ((IntKind.wrap .i64 (2 + ((u_pick pC ((u_of pC p_c ([[116], [117]] : List Str)).2) 3).1))).toNat))).length : Int) - 1))).2) 4).1 ∧ (u_pick pC ((u_pick pC ((u_one pC ((u_one pC (x168, x169) 3).2) 8).2) (IntKind.wrap .i64 (((([] : List Str) ++ (([[107], [97], [98], [99, 99]] : List Str).take ((IntKind.wrap .i64 (2 + ((u_pick pC ((u_of pC p_c ([[116], [117]] : List Str)).2) 3).1))).toNat))).length : Int) - 1))).2) 4).1 ≤ 65535 ∧ ((u_pick pC ((u_pick pC ((u_one pC ((u_one pC (x168, x169) 3).2) 8).2) (IntKind.wrap .i64 (((([] : List Str) ++ (([[107], [97], [98], [99, 99]] : List Str).take ((IntKind.wrap .i64 (2 + ((u_pick pC ((u_of pC p_c ([[116], [117]] : List Str)).2) 3).1))).toNat))).length : Int) - 1))).2) 4).1 < 4 ∨ ((4 : Int) ≤ 0 ∧ (u_pick pC ((u_pick pC ((u_one pC ((u_one pC (x168, x169) 3).2) 8).2) (IntKind.wrap .i64 (((([] : List Str) ++ (([[107], [97], [98], [99, 99]] : List Str).take ((IntKind.wrap .i64 (2 + ((u_pick pC ((u_of pC p_c ([[116], [117]] : List Str)).2) 3).1))).toNat))).length : Int) - 1))).2) 4).1 = 0))) ∧ (((u_pick pC ((u_one pC ((u_one pC (x168, x169) 3).2) 8).2) (IntKind.wrap .i64 (((([] : List Str) ++ (([[107], [97], [98], [99, 99]] : List Str).take ((IntKind.wrap .i64 (2 + ((u_pick pC ((u_of pC p_c ([[116], [117]] : List Str)).2) 3).1))).toNat))).length : Int) - 1))).2).1 ≤ ((u_pick pC ((u_pick pC ((u_one pC ((u_one pC (x168, x169) 3).2) 8).2) (IntKind.wrap .i64 (((([] : List Str) ++ (([[107], [97], [98], [99, 99]] : List Str).take ((IntKind.wrap .i64 (2 + ((u_pick pC ((u_of pC p_c ([[116], [117]] : List Str)).2) 3).1))).toNat))).length : Int) - 1))).2) 4).2).1 ∧ ((u_pick pC ((u_pick pC ((u_one pC ((u_one pC (x168, x169) 3).2) 8).2) (IntKind.wrap .i64 (((([] : List Str) ++ (([[107], [97], [98], [99, 99]] : List Str).take ((IntKind.wrap .i64 (2 + ((u_pick pC ((u_of pC p_c ([[116], [117]] : List Str)).2) 3).1))).toNat))).length : Int) - 1))).2) 4).2).1 ≤ ((u_pick pC ((u_one pC ((u_one pC (x168, x169) 3).2) 8).2) (IntKind.wrap .i64 (((([] : List Str) ++ (([[107], [97], [98], [99, 99]] : List Str).take ((IntKind.wrap .i64 (2 + ((u_pick pC ((u_of pC p_c ([[116], [117]] : List Str)).2) 3).1))).toNat))).length : Int) - 1))).2).1 + 2) ∧ Box wq b1 46 [.slice A3 pC.length c3, .int .i64 (((u_pick pC ((u_pick pC ((u_one pC ((u_one pC (x168, x169) 3).2) 8).2) (IntKind.wrap .i64 (((([] : List Str) ++ (([[107], [97], [98], [99, 99]] : List Str).take ((IntKind.wrap .i64 (2 + ((u_pick pC ((u_of pC p_c ([[116], [117]] : List Str)).2) 3).1))).toNat))).length : Int) - 1))).2) 4).2).1), .int .u64 (((u_pick pC ((u_pick pC ((u_one pC ((u_one pC (x168, x169) 3).2) 8).2) (IntKind.wrap .i64 (((([] : List Str) ++ (([[107], [97], [98], [99, 99]] : List Str).take ((IntKind.wrap .i64 (2 + ((u_pick pC ((u_of pC p_c ([[116], [117]] : List Str)).2) 3).1))).toNat))).length : Int) - 1))).2) 4).2).2)], DetG (.agg #[.string (bs ((([[105], [106], [109]] : List Str).getD k102 d_Str))), .int .i64 (IntKind.wrap .i64 (1 + ((u_pick pC ((u_one pC ((u_one pC (x168, x169) 3).2) 8).2) (IntKind.wrap .i64 (((([] : List Str) ++ (([[107], [97], [98], [99, 99]] : List Str).take ((IntKind.wrap .i64 (2 + ((u_pick pC ((u_of pC p_c ([[116], [117]] : List Str)).2) 3).1))).toNat))).length : Int) - 1))).1))), .int .i64 ((u_pick pC ((u_pick pC ((u_one pC ((u_one pC (x168, x169) 3).2) 8).2) (IntKind.wrap .i64 (((([] : List Str) ++ (([[107], [97], [98], [99, 99]] : List Str).take ((IntKind.wrap .i64 (2 + ((u_pick pC ((u_of pC p_c ([[116], [117]] : List Str)).2) 3).1))).toNat))).length : Int) - 1))).2) 4).1)]), fun G v wq => ∃ A276, v = .slice A276 1 1 ∧ OwnL wq (G.fl 13) (G.fh 13) 64 3 (RF e_Idx) A276 1 1 ([(⟨(([[105], [106], [109]] : List Str).getD k102 d_Str), IntKind.wrap .i64 (1 + ((u_pick pC ((u_one pC ((u_one pC (x168, x169) 3).2) 8).2) (IntKind.wrap .i64 (((([] : List Str) ++ (([[107], [97], [98], [99, 99]] : List Str).take ((IntKind.wrap .i64 (2 + ((u_pick pC ((u_of pC p_c ([[116], [117]] : List Str)).2) 3).1))).toNat))).length : Int) - 1))).1)), (u_pick pC ((u_pick pC ((u_one pC ((u_one pC (x168, x169) 3).2) 8).2) (IntKind.wrap .i64 (((([] : List Str) ++ (([[107], [97], [98], [99, 99]] : List Str).take ((IntKind.wrap .i64 (2 + ((u_pick pC ((u_of pC p_c ([[116], [117]] : List Str)).2) 3).1))).toNat))).length : Int) - 1))).2) 4).1⟩ : DIdx)] : List DIdx)]) Tryz.follows rfl rfl rfl rfl rfl rfl (fun _ _ _ _ _ h => (fun h => h.imp (fun h => ⟨Gh.udn h.1, h.2⟩) (fun h => ⟨Gh.udn h.1, h.2⟩)) h) (fun i G w lo hi b K hn hh hp => by exact (hp.elim (fun ⟨e, q1, q2⟩ => by subst e; exact .inl (.inl ⟨Gh.sdn, .inl ⟨q1, q2⟩⟩)) (fun hp => (match hp with | ⟨e, q1, q2⟩ => by subst e; exact .inl (.inr (⟨Gh.sdn, .inl ⟨q1, q2⟩⟩)))))) (vgetG_kept ⟨(KeptG.det _), (KeptG.det _), (KeptG.det _), (KeptG.det _), (KeptG.det _), (KeptG.det _), (KeptG.det _), (KeptG.det _), (by rintro i G v w w' K hn hh hj ⟨hv, h0, h1, h2⟩ e; exact ⟨hv, h0, h1, (by intro hd; exact Box.chg (h2 (Gh.off hd).2) e (fun hp => by exact (hp.elim (fun ⟨e, q1, q2⟩ => by subst e; rw [hj] at hn; cases hn) (fun hp => (match hp with | ⟨e, q1, q2⟩ => by subst e; exact absurd rfl (Gh.off hd).1)))))⟩), (KeptG.det _), (KeptG.det _), (by rintro i G v w w' K hn hh hj ⟨hv, h0, h1, h2⟩ e; exact ⟨hv, h0, h1, (by exact Box.chg h2 e (fun hp => by exact (hp.elim (fun ⟨e, q1, q2⟩ => by subst e; rw [K.cl 11 8 hj rfl] at hn; cases hn) (fun hp => (match hp with | ⟨e, q1, q2⟩ => by subst e; rw [hj] at hn; cases hn)))))⟩), (KeptG.det _), (by rintro i G v w w' K hn hh hj ⟨A276, hv, h0⟩ e; have d13 : G.dn 13 = true := hj; have u13 := Gh.ufl (lo := w.heap.size) (hi := w'.heap.size) d13 hn; have t13 := Gh.ufh (lo := w.heap.size) (hi := w'.heap.size) d13 hn; exact ⟨A276, hv, (by simp only [u13, t13]; exact OwnL.chg gI h0 e (fun b hb hp => by exact (hp.elim (fun ⟨e, q1, q2⟩ => by subst e; rw [K.cl 13 8 hj rfl] at hn; cases hn) (fun hp => (match hp with | ⟨e, q1, q2⟩ => by subst e; rw [K.cl 13 11 hj rfl] at hn; cases hn)))))⟩), trivial⟩) ⟨?_, ?_, ?_, ?_, ?_, ?_, ?_, ?_, ?_, ?_, ?_, ?_, ?_, ?_, trivial⟩ ?_
      ·intro L280 w281 G279 hgk282
       have hE283 : Chg (fun b => InR [(b1, b1 + 1)] b ∨ w245.heap.size ≤ b) w245 w281 := hgk282.st.ex.imp (fun b _ h => h.imp (fun h => h.elim (fun h => h.2) (fun h => h.2)) (fun h => h))
       have hE283z := Chg.size hE283
       exact OpR.op' rfl (Yl.sameG (yl_fieldAddr fd26_2 rfl (hgk282.old 4 _ rfl rfl) kI))
      ·intro L286 w287 G285 hgk288
       have hE289 : Chg (fun b => InR [(b1, b1 + 1)] b ∨ w245.heap.size ≤ b) w245 w287 := hgk288.st.ex.imp (fun b _ h => h.imp (fun h => h.elim (fun h => h.2) (fun h => h.2)) (fun h => h))
       have hE289z := Chg.size hE289
       obtain ⟨_, hx290, rfl⟩ := hgk288.val 0 37 rfl rfl
       exact OpR.op' rfl (Yl.sameG (yl_load1 ty24 rfl hx290 (((Box.chg q266 hE289 (by have := Box.lt q266; simp only [InR, or_false]; omega)).cell 2).trans rfl) kI))
      ·intro L293 w294 G292 hgk295
       have hE296 : Chg (fun b => InR [(b1, b1 + 1)] b ∨ w245.heap.size ≤ b) w245 w294 := hgk295.st.ex.imp (fun b _ h => h.imp (fun h => h.elim (fun h => h.2) (fun h => h.2)) (fun h => h))
       have hE296z := Chg.size hE296
       exact OpR.op' rfl (Yl.sameG (yM rfl (hgk295.old 6 _ rfl rfl) kI))
      ·intro L299 w300 G298 hgk301
       have hE302 := hgk301.st.ex.ex (fun b h => h.elim (fun h => h.elim (fun h => hgk301.no rfl h) (fun h => hgk301.no rfl h)) (fun h => h))
       have hE302z := Ex.size hE302
       exact OpR.op' rfl (Yl.sameG (yM rfl (hgk301.old 0 _ rfl rfl) kI))
      ·intro L305 w306 G304 hgk307
       have hE308 := hgk307.st.ex.ex (fun b h => h.elim (fun h => h.elim (fun h => hgk307.no rfl h) (fun h => hgk307.no rfl h)) (fun h => h))
       have hE308z := Ex.size hE308
       exact OpR.op' rfl (Yl.sameG (yl_fieldAddr fd26_1 rfl (hgk307.old 4 _ rfl rfl) kI))
      ·intro L311 w312 G310 hgk313
       have hE314 := hgk313.st.ex.ex (fun b h => h.elim (fun h => h.elim (fun h => hgk313.no rfl h) (fun h => hgk313.no rfl h)) (fun h => h))
       have hE314z := Ex.size hE314
       obtain ⟨_, hx315, rfl⟩ := hgk313.val 4 41 rfl rfl
       exact OpR.op' rfl (Yl.sameG (yl_load1 ty23 rfl hx315 (((Box.ex q266 hE314).cell 1).trans rfl) kI))
      ·intro L318 w319 G317 hgk320
       have hE321 := hgk320.st.ex.ex (fun b h => h.elim (fun h => h.elim (fun h => hgk320.no rfl h) (fun h => hgk320.no rfl h)) (fun h => h))
       have hE321z := Ex.size hE321
       obtain ⟨_, hx322, rfl⟩ := hgk320.val 5 42 rfl rfl
       exact OpR.op' rfl (Yl.sameG (yL un23 rfl hx322 kI))
      ·intro L324 w325 G323 hgk326
       have hE327 := hgk326.st.ex.ex (fun b h => h.elim (fun h => h.elim (fun h => hgk326.no rfl h) (fun h => hgk326.no rfl h)) (fun h => h))
       have hE327z := Ex.size hE327
       obtain ⟨_, hx328, rfl⟩ := hgk326.val 6 43 rfl rfl
       exact OpR.op' rfl (Yl.sameG (yl_sub rfl hx328 rfl kI))
      ·intro L330 w331 G329 hgk332
       have hE333 := hgk332.st.ex.ex (fun b h => h.elim (fun h => h.elim (fun h => hgk332.nw h) (fun h => hgk332.no rfl h)) (fun h => h))
       have hE333z := Ex.size hE333
       obtain ⟨_, hx334, rfl⟩ := hgk332.val 3 40 rfl rfl
       obtain ⟨_, hx335, rfl⟩ := hgk332.val 7 44 rfl rfl
       refine OpR.op' rfl (yC en39 rfl (oc hx334 (oc hx335 oz)) (Cal.mono (c_u_pick pC ((u_one pC ((u_one pC (x168, x169) 3).2) 8).2) (IntKind.wrap .i64 (((([] : List Str) ++ (([[107], [97], [98], [99, 99]] : List Str).take ((IntKind.wrap .i64 (2 + ((u_pick pC ((u_of pC p_c ([[116], [117]] : List Str)).2) 3).1))).toNat))).length : Int) - 1)) (Box.ex hB249 hE333) (RdS.ex gU q267 hE333) (by omega) (by omega) o6 (by omega) (by assumption)) ?_))
       rintro v341 w338 ⟨rfl, hp339, hp340, hB343, hE342⟩
       exact ⟨hE342.imp (fun k _ hk => hk.elim (fun hk => (.inl ⟨rfl, hk.1, hk.2⟩)) False.elim), rfl, hp339, hp340, fun _ => hB343⟩
      ·intro L345 w346 G344 hgk347
       have hE348 : Chg (fun b => InR [(b1, b1 + 1)] b ∨ w245.heap.size ≤ b) w245 w346 := hgk347.st.ex.imp (fun b _ h => h.imp (fun h => h.elim (fun h => h.2) (fun h => h.2)) (fun h => h))
       have hE348z := Chg.size hE348
       obtain ⟨_, hx349, rfl, h350, h351, -⟩ := hgk347.val 8 45 rfl rfl
       have hr352 := hgk347.st.rng 8 (hgk347.has 8 rfl)
       exact OpR.op' rfl (Yl.sameG (yl_add rfl rfl hx349 kI))
      ·intro L354 w355 G353 hgk356
       have hE357 : Chg (fun b => InR [(b1, b1 + 1)] b ∨ w245.heap.size ≤ b) w245 w355 := hgk356.st.ex.imp (fun b _ h => h.imp (fun h => h.elim (fun h => h.2) (fun h => hgk356.no rfl h)) (fun h => h))
       have hE357z := Chg.size hE357
       exact OpR.op' rfl (Yl.sameG (yM rfl (hgk356.old 0 _ rfl rfl) kI))
      ·intro L360 w361 G359 hgk362
       have hE363 : Chg (fun b => InR [(b1, b1 + 1)] b ∨ w245.heap.size ≤ b) w245 w361 := hgk362.st.ex.imp (fun b _ h => h.imp (fun h => h.elim (fun h => h.2) (fun h => hgk362.nw h)) (fun h => h))
       have hE363z := Chg.size hE363
       obtain ⟨_, hx364, rfl⟩ := hgk362.val 10 47 rfl rfl
       obtain ⟨_, rfl, h365, h366, h367⟩ := hgk362.fact 8 rfl
       have h367 := h367 hgk362.new
       have hr368 := hgk362.st.rng 8 (hgk362.has 8 rfl)
       refine OpR.op' rfl (yC en39 rfl (oc hx364 (oc rfl oz)) (Cal.mono (c_u_pick pC ((u_pick pC ((u_one pC ((u_one pC (x168, x169) 3).2) 8).2) (IntKind.wrap .i64 (((([] : List Str) ++ (([[107], [97], [98], [99, 99]] : List Str).take ((IntKind.wrap .i64 (2 + ((u_pick pC ((u_of pC p_c ([[116], [117]] : List Str)).2) 3).1))).toNat))).length : Int) - 1))).2) 4 h367 (RdS.chg gU q267 hE363 (fun k hl hk => by simp only [InR, or_false, Iv, Ge] at hk ⊢; omega)) (by omega) (by omega) o6 (by omega) (by assumption)) ?_))
       rintro v373 w370 ⟨rfl, hp371, hp372, hB375, hE374⟩
       exact ⟨hE374.imp (fun k _ hk => hk.elim (fun hk => (.inr (⟨rfl, hk.1, hk.2⟩))) False.elim), rfl, hp371, hp372, hB375⟩
      ·intro L377 w378 G376 hgk379
       have hE380 : Chg (fun b => InR [(b1, b1 + 1)] b ∨ w245.heap.size ≤ b) w245 w378 := hgk379.st.ex.imp (fun b _ h => h.imp (fun h => h.elim (fun h => h.2) (fun h => h.2)) (fun h => h))
       have hE380z := Chg.size hE380
       obtain ⟨_, hx381, rfl⟩ := hgk379.val 2 39 rfl rfl
       obtain ⟨_, hx382, rfl⟩ := hgk379.val 9 46 rfl rfl
       obtain ⟨_, hx383, rfl, h384, h385, h386⟩ := hgk379.val 11 48 rfl rfl
       have hr387 := hgk379.st.rng 11 (hgk379.has 11 rfl)
       exact OpR.op' rfl (Yl.sameG (yl_build (cs := [.string (bs ((([[105], [106], [109]] : List Str).getD k102 d_Str))), .int .i64 (IntKind.wrap .i64 (1 + ((u_pick pC ((u_one pC ((u_one pC (x168, x169) 3).2) 8).2) (IntKind.wrap .i64 (((([] : List Str) ++ (([[107], [97], [98], [99, 99]] : List Str).take ((IntKind.wrap .i64 (2 + ((u_pick pC ((u_of pC p_c ([[116], [117]] : List Str)).2) 3).1))).toNat))).length : Int) - 1))).1))), .int .i64 ((u_pick pC ((u_pick pC ((u_one pC ((u_one pC (x168, x169) 3).2) 8).2) (IntKind.wrap .i64 (((([] : List Str) ++ (([[107], [97], [98], [99, 99]] : List Str).take ((IntKind.wrap .i64 (2 + ((u_pick pC ((u_of pC p_c ([[116], [117]] : List Str)).2) 3).1))).toNat))).length : Int) - 1))).2) 4).1)]) rfl (oc hx381 (oc hx382 (oc hx383 oz))) (by kernel_rfl) kI))
      ·intro L389 w390 G388 hgk391
       have hE392 : Chg (fun b => InR [(b1, b1 + 1)] b ∨ w245.heap.size ≤ b) w245 w390 := hgk391.st.ex.imp (fun b _ h => h.imp (fun h => h.elim (fun h => h.2) (fun h => h.2)) (fun h => h))
       have hE392z := Chg.size hE392
       obtain ⟨_, hx393, rfl⟩ := hgk391.val 12 49 rfl rfl
       refine OpR.op' rfl (yl_buildSlice (cs := [.string (bs ((([[105], [106], [109]] : List Str).getD k102 d_Str))), .int .i64 (IntKind.wrap .i64 (1 + ((u_pick pC ((u_one pC ((u_one pC (x168, x169) 3).2) 8).2) (IntKind.wrap .i64 (((([] : List Str) ++ (([[107], [97], [98], [99, 99]] : List Str).take ((IntKind.wrap .i64 (2 + ((u_pick pC ((u_of pC p_c ([[116], [117]] : List Str)).2) 3).1))).toNat))).length : Int) - 1))).1))), .int .i64 ((u_pick pC ((u_pick pC ((u_one pC ((u_one pC (x168, x169) 3).2) 8).2) (IntKind.wrap .i64 (((([] : List Str) ++ (([[107], [97], [98], [99, 99]] : List Str).take ((IntKind.wrap .i64 (2 + ((u_pick pC ((u_of pC p_c ([[116], [117]] : List Str)).2) 3).1))).toNat))).length : Int) - 1))).2) 4).1)]) un24 ty64 (by decide) rfl (oc hx393 oz) (by kernel_rfl) ?_)
       intro b394 w395 hs396 hz397 hB398 hE399
       have hO400 : OwnL w395 b394 (b394 + 1) 64 3 (RF e_Idx) (some ⟨b394, 0, none⟩) 1 1 ([(⟨(([[105], [106], [109]] : List Str).getD k102 d_Str), IntKind.wrap .i64 (1 + ((u_pick pC ((u_one pC ((u_one pC (x168, x169) 3).2) 8).2) (IntKind.wrap .i64 (((([] : List Str) ++ (([[107], [97], [98], [99, 99]] : List Str).take ((IntKind.wrap .i64 (2 + ((u_pick pC ((u_of pC p_c ([[116], [117]] : List Str)).2) 3).1))).toNat))).length : Int) - 1))).1)), (u_pick pC ((u_pick pC ((u_one pC ((u_one pC (x168, x169) 3).2) 8).2) (IntKind.wrap .i64 (((([] : List Str) ++ (([[107], [97], [98], [99, 99]] : List Str).take ((IntKind.wrap .i64 (2 + ((u_pick pC ((u_of pC p_c ([[116], [117]] : List Str)).2) 3).1))).toNat))).length : Int) - 1))).2) 4).1⟩ : DIdx)] : List DIdx) := OwnL.of_box (S := fun _ => False) hB398 (Nat.le_refl _) (Nat.lt_succ_self _) (EncL.cons (c := [.string (bs ((([[105], [106], [109]] : List Str).getD k102 d_Str))), .int .i64 (IntKind.wrap .i64 (1 + ((u_pick pC ((u_one pC ((u_one pC (x168, x169) 3).2) 8).2) (IntKind.wrap .i64 (((([] : List Str) ++ (([[107], [97], [98], [99, 99]] : List Str).take ((IntKind.wrap .i64 (2 + ((u_pick pC ((u_of pC p_c ([[116], [117]] : List Str)).2) 3).1))).toNat))).length : Int) - 1))).1))), .int .i64 ((u_pick pC ((u_pick pC ((u_one pC ((u_one pC (x168, x169) 3).2) 8).2) (IntKind.wrap .i64 (((([] : List Str) ++ (([[107], [97], [98], [99, 99]] : List Str).take ((IntKind.wrap .i64 (2 + ((u_pick pC ((u_of pC p_c ([[116], [117]] : List Str)).2) 3).1))).toNat))).length : Int) - 1))).2) 4).1)]) rfl rfl EncL.nil) (Nat.le_of_ble_eq_true rfl) (fun h => h) (fun _ h => False.elim h)
       exact ⟨Chg.of_ex hE399, (some ⟨b394, 0, none⟩), rfl, OwnL.more (lo' := w390.heap.size) (hi' := w395.heap.size) hO400 (by omega) (by omega)⟩
      ·intro G401 L402 w403 hgp404
       have hE405 : Chg (fun b => InR [(b1, b1 + 1)] b ∨ w245.heap.size ≤ b) w245 w403 := hgp404.st.ex.imp (fun b _ h => h.imp (fun h => h.elim (fun h => h.2) (fun h => h.2)) (fun h => h))
       have hE405z := Chg.size hE405
       have hx408 := hgp404.old 4 _ rfl rfl
       obtain ⟨_, hx419, rfl⟩ := hgp404.val 1 38 rfl rfl
       obtain ⟨_, hx420, rfl, h421, h422, -⟩ := hgp404.val 8 45 rfl rfl
       obtain ⟨_, hx423, rfl, h424, h425, h426⟩ := hgp404.val 11 48 rfl rfl
       obtain ⟨_, hx427, A276_428, rfl, h429⟩ := hgp404.val 13 50 rfl rfl
       have hbz430 := Box.lt h426
       have hr431 := hgp404.st.rng 8 (hgp404.has 8 rfl)
       have hr432 := hgp404.st.rng 11 (hgp404.has 11 rfl)
       have hr433 := hgp404.st.rng 13 (hgp404.has 13 rfl)
       have hsp434 := hgp404.st.ord 11 8 (hgp404.has 11 rfl) rfl
       have hsp435 := hgp404.st.ord 13 8 (hgp404.has 13 rfl) rfl
       have hsp436 := hgp404.st.ord 13 11 (hgp404.has 13 rfl) rfl
       have q440 := OwnL.rd gI h429
       obtain ⟨nw441, he442, hs443⟩ := RdS.src q440
       refine sd rfl (yl_appendP (S := fun _ => False) (lo := lo174) (hi := u173) (xs := x170) (ys := ([(⟨(([[105], [106], [109]] : List Str).getD k102 d_Str), IntKind.wrap .i64 (1 + ((u_pick pC ((u_one pC ((u_one pC (x168, x169) 3).2) 8).2) (IntKind.wrap .i64 (((([] : List Str) ++ (([[107], [97], [98], [99, 99]] : List Str).take ((IntKind.wrap .i64 (2 + ((u_pick pC ((u_of pC p_c ([[116], [117]] : List Str)).2) 3).1))).toNat))).length : Int) - 1))).1)), (u_pick pC ((u_pick pC ((u_one pC ((u_one pC (x168, x169) 3).2) 8).2) (IntKind.wrap .i64 (((([] : List Str) ++ (([[107], [97], [98], [99, 99]] : List Str).take ((IntKind.wrap .i64 (2 + ((u_pick pC ((u_of pC p_c ([[116], [117]] : List Str)).2) 3).1))).toNat))).length : Int) - 1))).2) 4).1⟩ : DIdx)] : List DIdx)) un24 ty64 rfl (Nat.le_of_ble_eq_true rfl) (fun _ => rfl) rfl hx419 hx427 (OwnL.chg gI (OwnL.chg gI (OwnL.chg gI hf227 hc240 (fun k hl hk => by simp only [InR, or_false] at hk; omega)) hc248 (fun k hl hk => by simp only [InR, or_false] at hk; omega)) hE405 (fun k hl hk => by simp only [InR, or_false] at hk; omega)) he442 hs443 (RdS.len q440) (by first | omega | (simp only [lN, toS_length]; omega)) (by first | omega | (simp only [lN, toS_length]; omega)) (by omega) (by omega) (by omega) ?_)
       intro A444 c445 w446 row447 lp448 hp449 hO450 hG451 hrg452 hdj453
       have hG451z := hG451.size
       refine sd rfl (yl_fieldAddr fd26_2 rfl hx408 (SeqR.u rfl rfl (yl_store (vs := [.slice A444 ((x170 ++ ([(⟨(([[105], [106], [109]] : List Str).getD k102 d_Str), IntKind.wrap .i64 (1 + ((u_pick pC ((u_one pC ((u_one pC (x168, x169) 3).2) 8).2) (IntKind.wrap .i64 (((([] : List Str) ++ (([[107], [97], [98], [99, 99]] : List Str).take ((IntKind.wrap .i64 (2 + ((u_pick pC ((u_of pC p_c ([[116], [117]] : List Str)).2) 3).1))).toNat))).length : Int) - 1))).1)), (u_pick pC ((u_pick pC ((u_one pC ((u_one pC (x168, x169) 3).2) 8).2) (IntKind.wrap .i64 (((([] : List Str) ++ (([[107], [97], [98], [99, 99]] : List Str).take ((IntKind.wrap .i64 (2 + ((u_pick pC ((u_of pC p_c ([[116], [117]] : List Str)).2) 3).1))).toNat))).length : Int) - 1))).2) 4).1⟩ : DIdx)] : List DIdx)).length) c445]) ty24 rfl rfl rfl rfl rfl rfl (Box.grown (Box.chg q266 hE405 (by have := Box.lt q266; simp only [InR, or_false]; omega)) hG451 (fun k hk => by have := hrg452 k hk; omega)) (Nat.le_of_ble_eq_true rfl) ?_)))
       intro w456 hB457 hO458
       have hB457 : Box w456 b86 26 [.string (bs ((u_of pC p_c ([[116], [117]] : List Str)).1)), .slice A76 ((([] : List Str) ++ (([[107], [97], [98], [99, 99]] : List Str).take ((IntKind.wrap .i64 (2 + ((u_pick pC ((u_of pC p_c ([[116], [117]] : List Str)).2) 3).1))).toNat))).length) c77, .slice A444 ((x170 ++ ([(⟨(([[105], [106], [109]] : List Str).getD k102 d_Str), IntKind.wrap .i64 (1 + ((u_pick pC ((u_one pC ((u_one pC (x168, x169) 3).2) 8).2) (IntKind.wrap .i64 (((([] : List Str) ++ (([[107], [97], [98], [99, 99]] : List Str).take ((IntKind.wrap .i64 (2 + ((u_pick pC ((u_of pC p_c ([[116], [117]] : List Str)).2) 3).1))).toNat))).length : Int) - 1))).1)), (u_pick pC ((u_pick pC ((u_one pC ((u_one pC (x168, x169) 3).2) 8).2) (IntKind.wrap .i64 (((([] : List Str) ++ (([[107], [97], [98], [99, 99]] : List Str).take ((IntKind.wrap .i64 (2 + ((u_pick pC ((u_of pC p_c ([[116], [117]] : List Str)).2) 3).1))).toNat))).length : Int) - 1))).2) 4).1⟩ : DIdx)] : List DIdx)).length) c445] := hB457
       have hO458z := hO458.size
       refine SeqR.done (bn (tn (CW.sub (Sub.cons (d := 0) (hgp404.old 0 _ rfl rfl) (Sub.cons (d := 2) (hgp404.old 2 _ rfl rfl) (Sub.cons (d := 4) hx408 (Sub.cons (d := 19) (hgp404.old 19 _ rfl rfl) (Sub.cons (d := 20) (hgp404.old 20 _ rfl rfl) (Sub.cons (d := 21) (hgp404.old 21 _ rfl rfl) (Sub.cons (d := 29) (hgp404.old 29 _ rfl rfl) (Sub.cons (d := 30) (hgp404.old 30 _ rfl rfl) (Sub.cons (d := 31) (hgp404.old 31 _ rfl rfl) (Sub.cons (d := 32) (hgp404.old 32 _ rfl rfl) (Sub.cons (d := 33) (hgp404.old 33 _ rfl rfl) (Sub.cons (d := 34) (hgp404.old 34 _ rfl rfl) (Sub.cons (d := 35) (hgp404.old 35 _ rfl rfl) (Sub.nil _)))))))))))))) (CW.region (sd rfl (yl_inc rfl rfl rfl (by omega) (sd rfl (yM rfl rfl (dn ?_)))))))))
       have hB459 : B_u_table_0 pC p_c k102 (x168, x169, x170) = .cont (((u_pick pC ((u_pick pC ((u_one pC ((u_one pC (x168, x169) 3).2) 8).2) (IntKind.wrap .i64 (((([] : List Str) ++ (([[107], [97], [98], [99, 99]] : List Str).take ((IntKind.wrap .i64 (2 + ((u_pick pC ((u_of pC p_c ([[116], [117]] : List Str)).2) 3).1))).toNat))).length : Int) - 1))).2) 4).2).1, ((u_pick pC ((u_pick pC ((u_one pC ((u_one pC (x168, x169) 3).2) 8).2) (IntKind.wrap .i64 (((([] : List Str) ++ (([[107], [97], [98], [99, 99]] : List Str).take ((IntKind.wrap .i64 (2 + ((u_pick pC ((u_of pC p_c ([[116], [117]] : List Str)).2) 3).1))).toNat))).length : Int) - 1))).2) 4).2).2, (x170 ++ ([(⟨(([[105], [106], [109]] : List Str).getD k102 d_Str), IntKind.wrap .i64 (1 + ((u_pick pC ((u_one pC ((u_one pC (x168, x169) 3).2) 8).2) (IntKind.wrap .i64 (((([] : List Str) ++ (([[107], [97], [98], [99, 99]] : List Str).take ((IntKind.wrap .i64 (2 + ((u_pick pC ((u_of pC p_c ([[116], [117]] : List Str)).2) 3).1))).toNat))).length : Int) - 1))).1)), (u_pick pC ((u_pick pC ((u_one pC ((u_one pC (x168, x169) 3).2) 8).2) (IntKind.wrap .i64 (((([] : List Str) ++ (([[107], [97], [98], [99, 99]] : List Str).take ((IntKind.wrap .i64 (2 + ((u_pick pC ((u_of pC p_c ([[116], [117]] : List Str)).2) 3).1))).toNat))).length : Int) - 1))).2) 4).1⟩ : DIdx)] : List DIdx))) := by simp only [B_u_table_0, hb242, hb243, hb250, cL]
       have q465 := Box.chg hf224 hc240 (by have := Box.lt hf224; simp only [InR, or_false]; omega)
       have q466 := Box.chg q465 hc248 (by have := Box.lt q465; simp only [InR, or_false]; omega)
       exact ⟨3 - (k102 + 1), by omega, k102 + 1, ((u_pick pC ((u_pick pC ((u_one pC ((u_one pC (x168, x169) 3).2) 8).2) (IntKind.wrap .i64 (((([] : List Str) ++ (([[107], [97], [98], [99, 99]] : List Str).take ((IntKind.wrap .i64 (2 + ((u_pick pC ((u_of pC p_c ([[116], [117]] : List Str)).2) 3).1))).toNat))).length : Int) - 1))).2) 4).2).1, ((u_pick pC ((u_pick pC ((u_one pC ((u_one pC (x168, x169) 3).2) 8).2) (IntKind.wrap .i64 (((([] : List Str) ++ (([[107], [97], [98], [99, 99]] : List Str).take ((IntKind.wrap .i64 (2 + ((u_pick pC ((u_of pC p_c ([[116], [117]] : List Str)).2) 3).1))).toNat))).length : Int) - 1))).2) 4).2).2, (x170 ++ ([(⟨(([[105], [106], [109]] : List Str).getD k102 d_Str), IntKind.wrap .i64 (1 + ((u_pick pC ((u_one pC ((u_one pC (x168, x169) 3).2) 8).2) (IntKind.wrap .i64 (((([] : List Str) ++ (([[107], [97], [98], [99, 99]] : List Str).take ((IntKind.wrap .i64 (2 + ((u_pick pC ((u_of pC p_c ([[116], [117]] : List Str)).2) 3).1))).toNat))).length : Int) - 1))).1)), (u_pick pC ((u_pick pC ((u_one pC ((u_one pC (x168, x169) 3).2) 8).2) (IntKind.wrap .i64 (((([] : List Str) ++ (([[107], [97], [98], [99, 99]] : List Str).take ((IntKind.wrap .i64 (2 + ((u_pick pC ((u_of pC p_c ([[116], [117]] : List Str)).2) 3).1))).toNat))).length : Int) - 1))).2) 4).1⟩ : DIdx)] : List DIdx)), A444, c445, hp449, lp448, rfl, hlt234, (by omega), rfl, rfl, rfl, rfl, rfl, rfl, (Box.only (Box.grown h426 hG451 (fun k hk => by have := hrg452 k hk; omega)) hO458 (by omega)), (RdS.only gU (RdS.grown gU (RdS.chg gU q267 hE405 (fun k hl hk => by simp only [InR, or_false, Iv, Ge] at hk ⊢; omega)) hG451 (fun k hk => by have := hrg452 k hk; simp only [Iv]; omega)) hO458 (by simp only [Iv]; omega)), (Box.only (Box.grown (Box.chg q466 hE405 (by have := Box.lt q466; simp only [InR, or_false]; omega)) hG451 (fun k hk => by have := hrg452 k hk; omega)) hO458 (by omega)), hB457, (OwnL.only gS (OwnL.grown gS (OwnL.chg gS (OwnL.chg gS (OwnL.chg gS hf226 hc240 (fun k hl hk => by simp only [InR, or_false] at hk; omega)) hc248 (fun k hl hk => by simp only [InR, or_false] at hk; omega)) hE405 (fun k hl hk => by simp only [InR, or_false] at hk; omega)) hG451 (fun k hk => by have := hrg452 k hk; omega)) hO458 (by omega)), (OwnL.only gI hO450 hO458 (by omega)), (OwnL.only gS (OwnL.grown gS (OwnL.chg gS (OwnL.chg gS (OwnL.chg gS hf228 hc240 (fun k hl hk => by simp only [InR, or_false] at hk; omega)) hc248 (fun k hl hk => by simp only [InR, or_false] at hk; omega)) hE405 (fun k hl hk => by simp only [InR, or_false] at hk; omega)) hG451 (fun k hk => by have := hrg452 k hk; omega)) hO458 (by omega)), (Chg.tonly (Chg.tgrown (Chg.tchg (Chg.tchg (Chg.tchg hf229 hc240 (fun k hk => by simp only [InR, or_false] at hk ⊢; omega)) hc248 (fun k hk => by simp only [InR, or_false] at hk ⊢; omega)) hE405 (fun k hk => by simp only [InR, or_false] at hk ⊢; omega)) hG451 (fun k hk => by have := hrg452 k hk; simp only [InR, or_false]; omega)) hO458 (by simp only [InR, or_false]; omega)), (by omega), (by first | omega | (simp only [lN, toS_length]; omega)), (okE.append hok232 ((okL.mk (Nat.le_of_ble_eq_true rfl) (okE.cons (show ok_Idx (⟨(([[105], [106], [109]] : List Str).getD k102 d_Str), IntKind.wrap .i64 (1 + ((u_pick pC ((u_one pC ((u_one pC (x168, x169) 3).2) 8).2) (IntKind.wrap .i64 (((([] : List Str) ++ (([[107], [97], [98], [99, 99]] : List Str).take ((IntKind.wrap .i64 (2 + ((u_pick pC ((u_of pC p_c ([[116], [117]] : List Str)).2) 3).1))).toNat))).length : Int) - 1))).1)), (u_pick pC ((u_pick pC ((u_one pC ((u_one pC (x168, x169) 3).2) 8).2) (IntKind.wrap .i64 (((([] : List Str) ++ (([[107], [97], [98], [99, 99]] : List Str).take ((IntKind.wrap .i64 (2 + ((u_pick pC ((u_of pC p_c ([[116], [117]] : List Str)).2) 3).1))).toNat))).length : Int) - 1))).2) 4).1⟩ : DIdx) from (okL.getD (okL.mk (Nat.le_of_ble_eq_true rfl) (okE.cons (okS.lit rfl) (okE.cons (okS.lit rfl) (okE.cons (okS.lit rfl) okE.nil)))) ok_d_Str _)) okE.nil))).2), (by first | omega | assumption | (simp only [wI] at *; omega)), (loopM.cont hlt234 hB459).symm.trans hI214⟩
    ·refine sz rfl rfl hb243 (sz rfl rfl hb243 (sz rfl rfl hb243 (sy rfl rfl (not_t hb242) (yl_pick_f rfl rfl hb243 rfl (sd rfl (yl_pick_f rfl rfl (not_t hb242) rfl (dn (CW.cond_f rfl rfl (CW.skip ?_)))))))))
     refine bn (tn (CW.region (sd rfl (yl_inc rfl rfl rfl (by omega) (sd rfl (yM rfl rfl (dn ?_)))))))
     have hB486 : B_u_table_0 pC p_c k102 (x168, x169, x170) = .cont (((u_one pC (x168, x169) 3).2).1, ((u_one pC (x168, x169) 3).2).2, x170) := by simp only [B_u_table_0, hb242, hb243, cL]
     exact ⟨3 - (k102 + 1), by omega, k102 + 1, ((u_one pC (x168, x169) 3).2).1, ((u_one pC (x168, x169) 3).2).2, x170, A171, c172, u173, lo174, rfl, hlt234, (by omega), rfl, rfl, rfl, rfl, rfl, rfl, hB241, (RdS.chg gU hf223 hc240 (fun k hl hk => by simp only [InR, or_false, Iv, Ge] at hk ⊢; omega)), (Box.chg hf224 hc240 (by have := Box.lt hf224; simp only [InR, or_false]; omega)), (Box.chg hf225 hc240 (by have := Box.lt hf225; simp only [InR, or_false]; omega)), (OwnL.chg gS hf226 hc240 (fun k hl hk => by simp only [InR, or_false] at hk; omega)), (OwnL.chg gI hf227 hc240 (fun k hl hk => by simp only [InR, or_false] at hk; omega)), (OwnL.chg gS hf228 hc240 (fun k hl hk => by simp only [InR, or_false] at hk; omega)), (Chg.tchg hf229 hc240 (fun k hk => by simp only [InR, or_false] at hk ⊢; omega)), (by omega), (by first | omega | (simp only [lN, toS_length]; omega)), hok232, (by first | omega | assumption | (simp only [wI] at *; omega)), (loopM.cont hlt234 hB486).symm.trans hI214⟩
   ·refine sz rfl rfl (not_f hb242) (sz rfl rfl (not_f hb242) (sz rfl rfl (not_f hb242) (sq rfl rfl (sq rfl rfl (sq rfl rfl (sz rfl rfl (not_f hb242) (sd rfl (yl_pick_t rfl rfl (not_f hb242) rfl (SeqR.done ?_)))))))))
    refine tn (CW.cond_t rfl rfl ?_)
    have q494 := Box.chg hf225 hc240 (by have := Box.lt hf225; simp only [InR, or_false]; omega)
    have q495 := RdS.chg gU hf223 hc240 (fun k hl hk => by simp only [InR, or_false, Iv, Ge] at hk ⊢; omega)
    refine CW.drawsG 14 (fun G b => (G.dn 8 = true ∧ InR [(b1, b1 + 1)] b) ∨ (G.dn 11 = true ∧ InR [(b1, b1 + 1)] b)) (fun i G b => (i = 8 ∧ b1 ≤ b ∧ b < b1 + 1) ∨ (i = 11 ∧ b1 ≤ b ∧ b < b1 + 1)) (vgetG [DetG (.pointer (some ⟨b86, 0 + 2, none⟩)), DetG (.slice A171 x170.length c172), DetG (.string (bs ((([[105], [106], [109]] : List Str).getD k102 d_Str)))), DetG (.pointer (some ⟨b1, 0, none⟩)), DetG (.pointer (some ⟨b86, 0 + 1, none⟩)), DetG (.slice A76 ((([] : List Str) ++ (([[107], [97], [98], [99, 99]] : List Str).take ((IntKind.wrap .i64 (2 + ((u_pick pC ((u_of pC p_c ([[116], [117]] : List Str)).2) 3).1))).toNat))).length) c77), DetG (.int .i64 (((([] : List Str) ++ (([[107], [97], [98], [99, 99]] : List Str).take ((IntKind.wrap .i64 (2 + ((u_pick pC ((u_of pC p_c ([[116], [117]] : List Str)).2) 3).1))).toNat))).length : Int))), DetG (.int .i64 (IntKind.wrap .i64 (((([] : List Str) ++ (([[107], [97], [98], [99, 99]] : List Str).take ((IntKind.wrap .i64 (2 + ((u_pick pC ((u_of pC p_c ([[116], [117]] : List Str)).2) 3).1))).toNat))).length : Int) - 1))), fun G v wq => v = .int .i64 ((u_pick pC ((u_one pC (x168, x169) 3).2) (IntKind.wrap .i64 (((([] : List Str) ++ (([[107], [97], [98], [99, 99]] : List Str).take ((IntKind.wrap .i64 (2 + ((u_pick pC ((u_of pC p_c ([[116], [117]] : List Str)).2) 3).1))).toNat))).length : Int) - 1))).1) ∧ (0 ≤ (u_pick pC ((u_one pC (x168, x169) 3).2) (IntKind.wrap .i64 (((([] : List Str) ++ (([[107], [97], [98], [99, 99]] : List Str).take ((IntKind.wrap .i64 (2 + ((u_pick pC ((u_of pC p_c ([[116], [117]] : List Str)).2) 3).1))).toNat))).length : Int) - 1))).1 ∧ (u_pick pC ((u_one pC (x168, x169) 3).2) (IntKind.wrap .i64 (((([] : List Str) ++ (([[107], [97], [98], [99, 99]] : List Str).take ((IntKind.wrap .i64 (2 + ((u_pick pC ((u_of pC p_c ([[116], [117]] : List Str)).2) 3).1))).toNat))).length : Int) - 1))).1 ≤ 65535 ∧ ((u_pick pC ((u_one pC (x168, x169) 3).2) (IntKind.wrap .i64 (((([] : List Str) ++ (([[107], [97], [98], [99, 99]] : List Str).take ((IntKind.wrap .i64 (2 + ((u_pick pC ((u_of pC p_c ([[116], [117]] : List Str)).2) 3).1))).toNat))).length : Int) - 1))).1 < IntKind.wrap .i64 (((([] : List Str) ++ (([[107], [97], [98], [99, 99]] : List Str).take ((IntKind.wrap .i64 (2 + ((u_pick pC ((u_of pC p_c ([[116], [117]] : List Str)).2) 3).1))).toNat))).length : Int) - 1) ∨ ((IntKind.wrap .i64 (((([] : List Str) ++ (([[107], [97], [98], [99, 99]] : List Str).take ((IntKind.wrap .i64 (2 + ((u_pick pC ((u_of pC p_c ([[116], [117]] : List Str)).2) 3).1))).toNat))).length : Int) - 1) : Int) ≤ 0 ∧ (u_pick pC ((u_one pC (x168, x169) 3).2) (IntKind.wrap .i64 (((([] : List Str) ++ (([[107], [97], [98], [99, 99]] : List Str).take ((IntKind.wrap .i64 (2 + ((u_pick pC ((u_of pC p_c ([[116], [117]] : List Str)).2) 3).1))).toNat))).length : Int) - 1))).1 = 0))) ∧ (((u_one pC (x168, x169) 3).2).1 ≤ ((u_pick pC ((u_one pC (x168, x169) 3).2) (IntKind.wrap .i64 (((([] : List Str) ++ (([[107], [97], [98], [99, 99]] : List Str).take ((IntKind.wrap .i64 (2 + ((u_pick pC ((u_of pC p_c ([[116], [117]] : List Str)).2) 3).1))).toNat))).length : Int) - 1))).2).1 ∧ ((u_pick pC ((u_one pC (x168, x169) 3).2) (IntKind.wrap .i64 (((([] : List Str) ++ (([[107], [97], [98], [99, 99]] : List Str).take ((IntKind.wrap .i64 (2 + ((u_pick pC ((u_of pC p_c ([[116], [117]] : List Str)).2) 3).1))).toNat))).length : Int) - 1))).2).1 ≤ ((u_one pC (x168, x169) 3).2).1 + 2) ∧ (G.dn 11 = false → Box wq b1 46 [.slice A3 pC.length c3, .int .i64 (((u_pick pC ((u_one pC (x168, x169) 3).2) (IntKind.wrap .i64 (((([] : List Str) ++ (([[107], [97], [98], [99, 99]] : List Str).take ((IntKind.wrap .i64 (2 + ((u_pick pC ((u_of pC p_c ([[116], [117]] : List Str)).2) 3).1))).toNat))).length : Int) - 1))).2).1), .int .u64 (((u_pick pC ((u_one pC (x168, x169) 3).2) (IntKind.wrap .i64 (((([] : List Str) ++ (([[107], [97], [98], [99, 99]] : List Str).take ((IntKind.wrap .i64 (2 + ((u_pick pC ((u_of pC p_c ([[116], [117]] : List Str)).2) 3).1))).toNat))).length : Int) - 1))).2).2)]), DetG (.int .i64 (IntKind.wrap .i64 (1 + ((u_pick pC ((u_one pC (x168, x169) 3).2) (IntKind.wrap .i64 (((([] : List Str) ++ (([[107], [97], [98], [99, 99]] : List Str).take ((IntKind.wrap .i64 (2 + ((u_pick pC ((u_of pC p_c ([[116], [117]] : List Str)).2) 3).1))).toNat))).length : Int) - 1))).1)))), DetG (.pointer (some ⟨b1, 0, none⟩)), fun G v wq => v = .int .i64 ((u_pick pC ((u_pick pC ((u_one pC (x168, x169) 3).2) (IntKind.wrap .i64 (((([] : List Str) ++ (([[107], [97], [98], [99, 99]] : List Str).take ((IntKind.wrap .i64 (2 + ((u_pick pC ((u_of pC p_c ([[116], [117]] : List Str)).2) 3).1))).toNat))).length : Int) - 1))).2) 4).1) ∧ (0 ≤ (u_pick pC ((u_pick pC ((u_one pC (x168, x169) 3).2) (IntKind.wrap .i64 (((([] : List Str) ++ (([[107], [97], [98], [99, 99]] : List Str).take ((IntKind.wrap .i64 (2 + ((u_pick pC ((u_of pC p_c ([[116], [117]] : List Str)).2) 3).1))).toNat))).length : Int) - 1))).2) 4).1 ∧ (u_pick pC ((u_pick pC ((u_one pC (x168, x169) 3).2) (IntKind.wrap .i64 (((([] : List Str) ++ (([[107], [97], [98], [99, 99]] : List Str).take ((IntKind.wrap .i64 (2 + ((u_pick pC ((u_of pC p_c ([[116], [117]] : List Str)).2) 3).1))).toNat))).length : Int) - 1))).2) 4).1 ≤ 65535 ∧ ((u_pick pC ((u_pick pC ((u_one pC (x168, x169) 3).2) (IntKind.wrap .i64 (((([] : List Str) ++ (([[107], [97], [98], [99, 99]] : List Str).take ((IntKind.wrap .i64 (2 + ((u_pick pC ((u_of pC p_c ([[116], [117]] : List Str)).2) 3).1))).toNat))).length : Int) - 1))).2) 4).1 < 4 ∨ ((4 : Int) ≤ 0 ∧ (u_pick pC ((u_pick pC ((u_one pC (x168, x169) 3).2) (IntKind.wrap .i64 (((([] : List Str) ++ (([[107], [97], [98], [99, 99]] : List Str).take ((IntKind.wrap .i64 (2 + ((u_pick pC ((u_of pC p_c ([[116], [117]] : List Str)).2) 3).1))).toNat))).length : Int) - 1))).2) 4).1 = 0))) ∧ (((u_pick pC ((u_one pC (x168, x169) 3).2) (IntKind.wrap .i64 (((([] : List Str) ++ (([[107], [97], [98], [99, 99]] : List Str).take ((IntKind.wrap .i64 (2 + ((u_pick pC ((u_of pC p_c ([[116], [117]] : List Str)).2) 3).1))).toNat))).length : Int) - 1))).2).1 ≤ ((u_pick pC ((u_pick pC ((u_one pC (x168, x169) 3).2) (IntKind.wrap .i64 (((([] : List Str) ++ (([[107], [97], [98], [99, 99]] : List Str).take ((IntKind.wrap .i64 (2 + ((u_pick pC ((u_of pC p_c ([[116], [117]] : List Str)).2) 3).1))).toNat))).length : Int) - 1))).2) 4).2).1 ∧ ((u_pick pC ((u_pick pC ((u_one pC (x168, x169) 3).2) (IntKind.wrap .i64 (((([] : List Str) ++ (([[107], [97], [98], [99, 99]] : List Str).take ((IntKind.wrap .i64 (2 + ((u_pick pC ((u_of pC p_c ([[116], [117]] : List Str)).2) 3).1))).toNat))).length : Int) - 1))).2) 4).2).1 ≤ ((u_pick pC ((u_one pC (x168, x169) 3).2) (IntKind.wrap .i64 (((([] : List Str) ++ (([[107], [97], [98], [99, 99]] : List Str).take ((IntKind.wrap .i64 (2 + ((u_pick pC ((u_of pC p_c ([[116], [117]] : List Str)).2) 3).1))).toNat))).length : Int) - 1))).2).1 + 2) ∧ Box wq b1 46 [.slice A3 pC.length c3, .int .i64 (((u_pick pC ((u_pick pC ((u_one pC (x168, x169) 3).2) (IntKind.wrap .i64 (((([] : List Str) ++ (([[107], [97], [98], [99, 99]] : List Str).take ((IntKind.wrap .i64 (2 + ((u_pick pC ((u_of pC p_c ([[116], [117]] : List Str)).2) 3).1))).toNat))).length : Int) - 1))).2) 4).2).1), .int .u64 (((u_pick pC ((u_pick pC ((u_one pC (x168, x169) 3).2) (IntKind.wrap .i64 (((([] : List Str) ++ (([[107], [97], [98], [99, 99]] : List Str).take ((IntKind.wrap .i64 (2 + ((u_pick pC ((u_of pC p_c ([[116], [117]] : List Str)).2) 3).1))).toNat))).length : Int) - 1))).2) 4).2).2)], DetG (.agg #[.string (bs ((([[105], [106], [109]] : List Str).getD k102 d_Str))), .int .i64 (IntKind.wrap .i64 (1 + ((u_pick pC ((u_one pC (x168, x169) 3).2) (IntKind.wrap .i64 (((([] : List Str) ++ (([[107], [97], [98], [99, 99]] : List Str).take ((IntKind.wrap .i64 (2 + ((u_pick pC ((u_of pC p_c ([[116], [117]] : List Str)).2) 3).1))).toNat))).length : Int) - 1))).1))), .int .i64 ((u_pick pC ((u_pick pC ((u_one pC (x168, x169) 3).2) (IntKind.wrap .i64 (((([] : List Str) ++ (([[107], [97], [98], [99, 99]] : List Str).take ((IntKind.wrap .i64 (2 + ((u_pick pC ((u_of pC p_c ([[116], [117]] : List Str)).2) 3).1))).toNat))).length : Int) - 1))).2) 4).1)]), fun G v wq => ∃ A504, v = .slice A504 1 1 ∧ OwnL wq (G.fl 13) (G.fh 13) 64 3 (RF e_Idx) A504 1 1 ([(⟨(([[105], [106], [109]] : List Str).getD k102 d_Str), IntKind.wrap .i64 (1 + ((u_pick pC ((u_one pC (x168, x169) 3).2) (IntKind.wrap .i64 (((([] : List Str) ++ (([[107], [97], [98], [99, 99]] : List Str).take ((IntKind.wrap .i64 (2 + ((u_pick pC ((u_of pC p_c ([[116], [117]] : List Str)).2) 3).1))).toNat))).length : Int) - 1))).1)), (u_pick pC ((u_pick pC ((u_one pC (x168, x169) 3).2) (IntKind.wrap .i64 (((([] : List Str) ++ (([[107], [97], [98], [99, 99]] : List Str).take ((IntKind.wrap .i64 (2 + ((u_pick pC ((u_of pC p_c ([[116], [117]] : List Str)).2) 3).1))).toNat))).length : Int) - 1))).2) 4).1⟩ : DIdx)] : List DIdx)]) Tryz.follows rfl rfl rfl rfl rfl rfl (fun _ _ _ _ _ h => (fun h => h.imp (fun h => ⟨Gh.udn h.1, h.2⟩) (fun h => ⟨Gh.udn h.1, h.2⟩)) h) (fun i G w lo hi b K hn hh hp => by exact (hp.elim (fun ⟨e, q1, q2⟩ => by subst e; exact .inl (.inl ⟨Gh.sdn, .inl ⟨q1, q2⟩⟩)) (fun hp => (match hp with | ⟨e, q1, q2⟩ => by subst e; exact .inl (.inr (⟨Gh.sdn, .inl ⟨q1, q2⟩⟩)))))) (vgetG_kept ⟨(KeptG.det _), (KeptG.det _), (KeptG.det _), (KeptG.det _), (KeptG.det _), (KeptG.det _), (KeptG.det _), (KeptG.det _), (by rintro i G v w w' K hn hh hj ⟨hv, h0, h1, h2⟩ e; exact ⟨hv, h0, h1, (by intro hd; exact Box.chg (h2 (Gh.off hd).2) e (fun hp => by exact (hp.elim (fun ⟨e, q1, q2⟩ => by subst e; rw [hj] at hn; cases hn) (fun hp => (match hp with | ⟨e, q1, q2⟩ => by subst e; exact absurd rfl (Gh.off hd).1)))))⟩), (KeptG.det _), (KeptG.det _), (by rintro i G v w w' K hn hh hj ⟨hv, h0, h1, h2⟩ e; exact ⟨hv, h0, h1, (by exact Box.chg h2 e (fun hp => by exact (hp.elim (fun ⟨e, q1, q2⟩ => by subst e; rw [K.cl 11 8 hj rfl] at hn; cases hn) (fun hp => (match hp with | ⟨e, q1, q2⟩ => by subst e; rw [hj] at hn; cases hn)))))⟩), (KeptG.det _), (by rintro i G v w w' K hn hh hj ⟨A504, hv, h0⟩ e; have d13 : G.dn 13 = true := hj; have u13 := Gh.ufl (lo := w.heap.size) (hi := w'.heap.size) d13 hn; have t13 := Gh.ufh (lo := w.heap.size) (hi := w'.heap.size) d13 hn; exact ⟨A504, hv, (by simp only [u13, t13]; exact OwnL.chg gI h0 e (fun b hb hp => by exact (hp.elim (fun ⟨e, q1, q2⟩ => by subst e; rw [K.cl 13 8 hj rfl] at hn; cases hn) (fun hp => (match hp with | ⟨e, q1, q2⟩ => by subst e; rw [K.cl 13 11 hj rfl] at hn; cases hn)))))⟩), trivial⟩) ⟨?_, ?_, ?_, ?_, ?_, ?_, ?_, ?_, ?_, ?_, ?_, ?_, ?_, ?_, trivial⟩ ?_
    ·intro L508 w509 G507 hgk510
     have hE511 : Chg (fun b => InR [(b1, b1 + 1)] b ∨ w237.heap.size ≤ b) w237 w509 := hgk510.st.ex.imp (fun b _ h => h.imp (fun h => h.elim (fun h => h.2) (fun h => h.2)) (fun h => h))
     have hE511z := Chg.size hE511
     exact OpR.op' rfl (Yl.sameG (yl_fieldAddr fd26_2 rfl (hgk510.old 4 _ rfl rfl) kI))
    ·intro L514 w515 G513 hgk516
     have hE517 : Chg (fun b => InR [(b1, b1 + 1)] b ∨ w237.heap.size ≤ b) w237 w515 := hgk516.st.ex.imp (fun b _ h => h.imp (fun h => h.elim (fun h => h.2) (fun h => h.2)) (fun h => h))
     have hE517z := Chg.size hE517
     obtain ⟨_, hx518, rfl⟩ := hgk516.val 0 37 rfl rfl
     exact OpR.op' rfl (Yl.sameG (yl_load1 ty24 rfl hx518 (((Box.chg q494 hE517 (by have := Box.lt q494; simp only [InR, or_false]; omega)).cell 2).trans rfl) kI))
    ·intro L521 w522 G520 hgk523
     have hE524 : Chg (fun b => InR [(b1, b1 + 1)] b ∨ w237.heap.size ≤ b) w237 w522 := hgk523.st.ex.imp (fun b _ h => h.imp (fun h => h.elim (fun h => h.2) (fun h => h.2)) (fun h => h))
     have hE524z := Chg.size hE524
     exact OpR.op' rfl (Yl.sameG (yM rfl (hgk523.old 6 _ rfl rfl) kI))
    ·intro L527 w528 G526 hgk529
     have hE530 := hgk529.st.ex.ex (fun b h => h.elim (fun h => h.elim (fun h => hgk529.no rfl h) (fun h => hgk529.no rfl h)) (fun h => h))
     have hE530z := Ex.size hE530
     exact OpR.op' rfl (Yl.sameG (yM rfl (hgk529.old 0 _ rfl rfl) kI))
    ·intro L533 w534 G532 hgk535
     have hE536 := hgk535.st.ex.ex (fun b h => h.elim (fun h => h.elim (fun h => hgk535.no rfl h) (fun h => hgk535.no rfl h)) (fun h => h))
     have hE536z := Ex.size hE536
     exact OpR.op' rfl (Yl.sameG (yl_fieldAddr fd26_1 rfl (hgk535.old 4 _ rfl rfl) kI))
    ·intro L539 w540 G538 hgk541
     have hE542 := hgk541.st.ex.ex (fun b h => h.elim (fun h => h.elim (fun h => hgk541.no rfl h) (fun h => hgk541.no rfl h)) (fun h => h))
     have hE542z := Ex.size hE542
     obtain ⟨_, hx543, rfl⟩ := hgk541.val 4 41 rfl rfl
     exact OpR.op' rfl (Yl.sameG (yl_load1 ty23 rfl hx543 (((Box.ex q494 hE542).cell 1).trans rfl) kI))
    ·intro L546 w547 G545 hgk548
     have hE549 := hgk548.st.ex.ex (fun b h => h.elim (fun h => h.elim (fun h => hgk548.no rfl h) (fun h => hgk548.no rfl h)) (fun h => h))
     have hE549z := Ex.size hE549
     obtain ⟨_, hx550, rfl⟩ := hgk548.val 5 42 rfl rfl
     exact OpR.op' rfl (Yl.sameG (yL un23 rfl hx550 kI))
    ·intro L552 w553 G551 hgk554
     have hE555 := hgk554.st.ex.ex (fun b h => h.elim (fun h => h.elim (fun h => hgk554.no rfl h) (fun h => hgk554.no rfl h)) (fun h => h))
     have hE555z := Ex.size hE555
     obtain ⟨_, hx556, rfl⟩ := hgk554.val 6 43 rfl rfl
     exact OpR.op' rfl (Yl.sameG (yl_sub rfl hx556 rfl kI))
    ·intro L558 w559 G557 hgk560
     have hE561 := hgk560.st.ex.ex (fun b h => h.elim (fun h => h.elim (fun h => hgk560.nw h) (fun h => hgk560.no rfl h)) (fun h => h))
     have hE561z := Ex.size hE561
     obtain ⟨_, hx562, rfl⟩ := hgk560.val 3 40 rfl rfl
     obtain ⟨_, hx563, rfl⟩ := hgk560.val 7 44 rfl rfl
     refine OpR.op' rfl (yC en39 rfl (oc hx562 (oc hx563 oz)) (Cal.mono (c_u_pick pC ((u_one pC (x168, x169) 3).2) (IntKind.wrap .i64 (((([] : List Str) ++ (([[107], [97], [98], [99, 99]] : List Str).take ((IntKind.wrap .i64 (2 + ((u_pick pC ((u_of pC p_c ([[116], [117]] : List Str)).2) 3).1))).toNat))).length : Int) - 1)) (Box.ex hB241 hE561) (RdS.ex gU q495 hE561) (by omega) (by omega) o6 (by omega) (by assumption)) ?_))
     rintro v569 w566 ⟨rfl, hp567, hp568, hB571, hE570⟩
     exact ⟨hE570.imp (fun k _ hk => hk.elim (fun hk => (.inl ⟨rfl, hk.1, hk.2⟩)) False.elim), rfl, hp567, hp568, fun _ => hB571⟩
    ·intro L573 w574 G572 hgk575
     have hE576 : Chg (fun b => InR [(b1, b1 + 1)] b ∨ w237.heap.size ≤ b) w237 w574 := hgk575.st.ex.imp (fun b _ h => h.imp (fun h => h.elim (fun h => h.2) (fun h => h.2)) (fun h => h))
     have hE576z := Chg.size hE576
     obtain ⟨_, hx577, rfl, h578, h579, -⟩ := hgk575.val 8 45 rfl rfl
     have hr580 := hgk575.st.rng 8 (hgk575.has 8 rfl)
     exact OpR.op' rfl (Yl.sameG (yl_add rfl rfl hx577 kI))
    ·intro L582 w583 G581 hgk584
     have hE585 : Chg (fun b => InR [(b1, b1 + 1)] b ∨ w237.heap.size ≤ b) w237 w583 := hgk584.st.ex.imp (fun b _ h => h.imp (fun h => h.elim (fun h => h.2) (fun h => hgk584.no rfl h)) (fun h => h))
     have hE585z := Chg.size hE585
     exact OpR.op' rfl (Yl.sameG (yM rfl (hgk584.old 0 _ rfl rfl) kI))
    ·intro L588 w589 G587 hgk590
     have hE591 : Chg (fun b => InR [(b1, b1 + 1)] b ∨ w237.heap.size ≤ b) w237 w589 := hgk590.st.ex.imp (fun b _ h => h.imp (fun h => h.elim (fun h => h.2) (fun h => hgk590.nw h)) (fun h => h))
     have hE591z := Chg.size hE591
     obtain ⟨_, hx592, rfl⟩ := hgk590.val 10 47 rfl rfl
     obtain ⟨_, rfl, h593, h594, h595⟩ := hgk590.fact 8 rfl
     have h595 := h595 hgk590.new
     have hr596 := hgk590.st.rng 8 (hgk590.has 8 rfl)
     refine OpR.op' rfl (yC en39 rfl (oc hx592 (oc rfl oz)) (Cal.mono (c_u_pick pC ((u_pick pC ((u_one pC (x168, x169) 3).2) (IntKind.wrap .i64 (((([] : List Str) ++ (([[107], [97], [98], [99, 99]] : List Str).take ((IntKind.wrap .i64 (2 + ((u_pick pC ((u_of pC p_c ([[116], [117]] : List Str)).2) 3).1))).toNat))).length : Int) - 1))).2) 4 h595 (RdS.chg gU q495 hE591 (fun k hl hk => by simp only [InR, or_false, Iv, Ge] at hk ⊢; omega)) (by omega) (by omega) o6 (by omega) (by assumption)) ?_))
     rintro v601 w598 ⟨rfl, hp599, hp600, hB603, hE602⟩
     exact ⟨hE602.imp (fun k _ hk => hk.elim (fun hk => (.inr (⟨rfl, hk.1, hk.2⟩))) False.elim), rfl, hp599, hp600, hB603⟩
    ·intro L605 w606 G604 hgk607
     have hE608 : Chg (fun b => InR [(b1, b1 + 1)] b ∨ w237.heap.size ≤ b) w237 w606 := hgk607.st.ex.imp (fun b _ h => h.imp (fun h => h.elim (fun h => h.2) (fun h => h.2)) (fun h => h))
     have hE608z := Chg.size hE608
     obtain ⟨_, hx609, rfl⟩ := hgk607.val 2 39 rfl rfl
     obtain ⟨_, hx610, rfl⟩ := hgk607.val 9 46 rfl rfl
     obtain ⟨_, hx611, rfl, h612, h613, h614⟩ := hgk607.val 11 48 rfl rfl
     have hr615 := hgk607.st.rng 11 (hgk607.has 11 rfl)
     exact OpR.op' rfl (Yl.sameG (yl_build (cs := [.string (bs ((([[105], [106], [109]] : List Str).getD k102 d_Str))), .int .i64 (IntKind.wrap .i64 (1 + ((u_pick pC ((u_one pC (x168, x169) 3).2) (IntKind.wrap .i64 (((([] : List Str) ++ (([[107], [97], [98], [99, 99]] : List Str).take ((IntKind.wrap .i64 (2 + ((u_pick pC ((u_of pC p_c ([[116], [117]] : List Str)).2) 3).1))).toNat))).length : Int) - 1))).1))), .int .i64 ((u_pick pC ((u_pick pC ((u_one pC (x168, x169) 3).2) (IntKind.wrap .i64 (((([] : List Str) ++ (([[107], [97], [98], [99, 99]] : List Str).take ((IntKind.wrap .i64 (2 + ((u_pick pC ((u_of pC p_c ([[116], [117]] : List Str)).2) 3).1))).toNat))).length : Int) - 1))).2) 4).1)]) rfl (oc hx609 (oc hx610 (oc hx611 oz))) (by kernel_rfl) kI))
    ·intro L617 w618 G616 hgk619
     have hE620 : Chg (fun b => InR [(b1, b1 + 1)] b ∨ w237.heap.size ≤ b) w237 w618 := hgk619.st.ex.imp (fun b _ h => h.imp (fun h => h.elim (fun h => h.2) (fun h => h.2)) (fun h => h))
     have hE620z := Chg.size hE620
     obtain ⟨_, hx621, rfl⟩ := hgk619.val 12 49 rfl rfl
     refine OpR.op' rfl (yl_buildSlice (cs := [.string (bs ((([[105], [106], [109]] : List Str).getD k102 d_Str))), .int .i64 (IntKind.wrap .i64 (1 + ((u_pick pC ((u_one pC (x168, x169) 3).2) (IntKind.wrap .i64 (((([] : List Str) ++ (([[107], [97], [98], [99, 99]] : List Str).take ((IntKind.wrap .i64 (2 + ((u_pick pC ((u_of pC p_c ([[116], [117]] : List Str)).2) 3).1))).toNat))).length : Int) - 1))).1))), .int .i64 ((u_pick pC ((u_pick pC ((u_one pC (x168, x169) 3).2) (IntKind.wrap .i64 (((([] : List Str) ++ (([[107], [97], [98], [99, 99]] : List Str).take ((IntKind.wrap .i64 (2 + ((u_pick pC ((u_of pC p_c ([[116], [117]] : List Str)).2) 3).1))).toNat))).length : Int) - 1))).2) 4).1)]) un24 ty64 (by decide) rfl (oc hx621 oz) (by kernel_rfl) ?_)
     intro b622 w623 hs624 hz625 hB626 hE627
     have hO628 : OwnL w623 b622 (b622 + 1) 64 3 (RF e_Idx) (some ⟨b622, 0, none⟩) 1 1 ([(⟨(([[105], [106], [109]] : List Str).getD k102 d_Str), IntKind.wrap .i64 (1 + ((u_pick pC ((u_one pC (x168, x169) 3).2) (IntKind.wrap .i64 (((([] : List Str) ++ (([[107], [97], [98], [99, 99]] : List Str).take ((IntKind.wrap .i64 (2 + ((u_pick pC ((u_of pC p_c ([[116], [117]] : List Str)).2) 3).1))).toNat))).length : Int) - 1))).1)), (u_pick pC ((u_pick pC ((u_one pC (x168, x169) 3).2) (IntKind.wrap .i64 (((([] : List Str) ++ (([[107], [97], [98], [99, 99]] : List Str).take ((IntKind.wrap .i64 (2 + ((u_pick pC ((u_of pC p_c ([[116], [117]] : List Str)).2) 3).1))).toNat))).length : Int) - 1))).2) 4).1⟩ : DIdx)] : List DIdx) := OwnL.of_box (S := fun _ => False) hB626 (Nat.le_refl _) (Nat.lt_succ_self _) (EncL.cons (c := [.string (bs ((([[105], [106], [109]] : List Str).getD k102 d_Str))), .int .i64 (IntKind.wrap .i64 (1 + ((u_pick pC ((u_one pC (x168, x169) 3).2) (IntKind.wrap .i64 (((([] : List Str) ++ (([[107], [97], [98], [99, 99]] : List Str).take ((IntKind.wrap .i64 (2 + ((u_pick pC ((u_of pC p_c ([[116], [117]] : List Str)).2) 3).1))).toNat))).length : Int) - 1))).1))), .int .i64 ((u_pick pC ((u_pick pC ((u_one pC (x168, x169) 3).2) (IntKind.wrap .i64 (((([] : List Str) ++ (([[107], [97], [98], [99, 99]] : List Str).take ((IntKind.wrap .i64 (2 + ((u_pick pC ((u_of pC p_c ([[116], [117]] : List Str)).2) 3).1))).toNat))).length : Int) - 1))).2) 4).1)]) rfl rfl EncL.nil) (Nat.le_of_ble_eq_true rfl) (fun h => h) (fun _ h => False.elim h)
     exact ⟨Chg.of_ex hE627, (some ⟨b622, 0, none⟩), rfl, OwnL.more (lo' := w618.heap.size) (hi' := w623.heap.size) hO628 (by omega) (by omega)⟩
    ·intro G629 L630 w631 hgp632
     have hE633 : Chg (fun b => InR [(b1, b1 + 1)] b ∨ w237.heap.size ≤ b) w237 w631 := hgp632.st.ex.imp (fun b _ h => h.imp (fun h => h.elim (fun h => h.2) (fun h => h.2)) (fun h => h))
     have hE633z := Chg.size hE633
     have hx636 := hgp632.old 4 _ rfl rfl
     obtain ⟨_, hx647, rfl⟩ := hgp632.val 1 38 rfl rfl
     obtain ⟨_, hx648, rfl, h649, h650, -⟩ := hgp632.val 8 45 rfl rfl
     obtain ⟨_, hx651, rfl, h652, h653, h654⟩ := hgp632.val 11 48 rfl rfl
     obtain ⟨_, hx655, A504_656, rfl, h657⟩ := hgp632.val 13 50 rfl rfl
     have hbz658 := Box.lt h654
     have hr659 := hgp632.st.rng 8 (hgp632.has 8 rfl)
     have hr660 := hgp632.st.rng 11 (hgp632.has 11 rfl)
     have hr661 := hgp632.st.rng 13 (hgp632.has 13 rfl)
     have hsp662 := hgp632.st.ord 11 8 (hgp632.has 11 rfl) rfl
     have hsp663 := hgp632.st.ord 13 8 (hgp632.has 13 rfl) rfl
     have hsp664 := hgp632.st.ord 13 11 (hgp632.has 13 rfl) rfl
     have q667 := OwnL.rd gI h657
     obtain ⟨nw668, he669, hs670⟩ := RdS.src q667
     refine sd rfl (yl_appendP (S := fun _ => False) (lo := lo174) (hi := u173) (xs := x170) (ys := ([(⟨(([[105], [106], [109]] : List Str).getD k102 d_Str), IntKind.wrap .i64 (1 + ((u_pick pC ((u_one pC (x168, x169) 3).2) (IntKind.wrap .i64 (((([] : List Str) ++ (([[107], [97], [98], [99, 99]] : List Str).take ((IntKind.wrap .i64 (2 + ((u_pick pC ((u_of pC p_c ([[116], [117]] : List Str)).2) 3).1))).toNat))).length : Int) - 1))).1)), (u_pick pC ((u_pick pC ((u_one pC (x168, x169) 3).2) (IntKind.wrap .i64 (((([] : List Str) ++ (([[107], [97], [98], [99, 99]] : List Str).take ((IntKind.wrap .i64 (2 + ((u_pick pC ((u_of pC p_c ([[116], [117]] : List Str)).2) 3).1))).toNat))).length : Int) - 1))).2) 4).1⟩ : DIdx)] : List DIdx)) un24 ty64 rfl (Nat.le_of_ble_eq_true rfl) (fun _ => rfl) rfl hx647 hx655 (OwnL.chg gI (OwnL.chg gI hf227 hc240 (fun k hl hk => by simp only [InR, or_false] at hk; omega)) hE633 (fun k hl hk => by simp only [InR, or_false] at hk; omega)) he669 hs670 (RdS.len q667) (by first | omega | (simp only [lN, toS_length]; omega)) (by first | omega | (simp only [lN, toS_length]; omega)) (by omega) (by omega) (by omega) ?_)
     intro A671 c672 w673 row674 lp675 hp676 hO677 hG678 hrg679 hdj680
     have hG678z := hG678.size
     refine sd rfl (yl_fieldAddr fd26_2 rfl hx636 (SeqR.u rfl rfl (yl_store (vs := [.slice A671 ((x170 ++ ([(⟨(([[105], [106], [109]] : List Str).getD k102 d_Str), IntKind.wrap .i64 (1 + ((u_pick pC ((u_one pC (x168, x169) 3).2) (IntKind.wrap .i64 (((([] : List Str) ++ (([[107], [97], [98], [99, 99]] : List Str).take ((IntKind.wrap .i64 (2 + ((u_pick pC ((u_of pC p_c ([[116], [117]] : List Str)).2) 3).1))).toNat))).length : Int) - 1))).1)), (u_pick pC ((u_pick pC ((u_one pC (x168, x169) 3).2) (IntKind.wrap .i64 (((([] : List Str) ++ (([[107], [97], [98], [99, 99]] : List Str).take ((IntKind.wrap .i64 (2 + ((u_pick pC ((u_of pC p_c ([[116], [117]] : List Str)).2) 3).1))).toNat))).length : Int) - 1))).2) 4).1⟩ : DIdx)] : List DIdx)).length) c672]) ty24 rfl rfl rfl rfl rfl rfl (Box.grown (Box.chg q494 hE633 (by have := Box.lt q494; simp only [InR, or_false]; omega)) hG678 (fun k hk => by have := hrg679 k hk; omega)) (Nat.le_of_ble_eq_true rfl) ?_)))
     intro w683 hB684 hO685
     have hB684 : Box w683 b86 26 [.string (bs ((u_of pC p_c ([[116], [117]] : List Str)).1)), .slice A76 ((([] : List Str) ++ (([[107], [97], [98], [99, 99]] : List Str).take ((IntKind.wrap .i64 (2 + ((u_pick pC ((u_of pC p_c ([[116], [117]] : List Str)).2) 3).1))).toNat))).length) c77, .slice A671 ((x170 ++ ([(⟨(([[105], [106], [109]] : List Str).getD k102 d_Str), IntKind.wrap .i64 (1 + ((u_pick pC ((u_one pC (x168, x169) 3).2) (IntKind.wrap .i64 (((([] : List Str) ++ (([[107], [97], [98], [99, 99]] : List Str).take ((IntKind.wrap .i64 (2 + ((u_pick pC ((u_of pC p_c ([[116], [117]] : List Str)).2) 3).1))).toNat))).length : Int) - 1))).1)), (u_pick pC ((u_pick pC ((u_one pC (x168, x169) 3).2) (IntKind.wrap .i64 (((([] : List Str) ++ (([[107], [97], [98], [99, 99]] : List Str).take ((IntKind.wrap .i64 (2 + ((u_pick pC ((u_of pC p_c ([[116], [117]] : List Str)).2) 3).1))).toNat))).length : Int) - 1))).2) 4).1⟩ : DIdx)] : List DIdx)).length) c672] := hB684
     have hO685z := hO685.size
     refine SeqR.done (bn (tn (CW.sub (Sub.cons (d := 0) (hgp632.old 0 _ rfl rfl) (Sub.cons (d := 2) (hgp632.old 2 _ rfl rfl) (Sub.cons (d := 4) hx636 (Sub.cons (d := 19) (hgp632.old 19 _ rfl rfl) (Sub.cons (d := 20) (hgp632.old 20 _ rfl rfl) (Sub.cons (d := 21) (hgp632.old 21 _ rfl rfl) (Sub.cons (d := 29) (hgp632.old 29 _ rfl rfl) (Sub.cons (d := 30) (hgp632.old 30 _ rfl rfl) (Sub.cons (d := 31) (hgp632.old 31 _ rfl rfl) (Sub.cons (d := 32) (hgp632.old 32 _ rfl rfl) (Sub.cons (d := 33) (hgp632.old 33 _ rfl rfl) (Sub.cons (d := 34) (hgp632.old 34 _ rfl rfl) (Sub.cons (d := 35) (hgp632.old 35 _ rfl rfl) (Sub.nil _)))))))))))))) (CW.region (sd rfl (yl_inc rfl rfl rfl (by omega) (sd rfl (yM rfl rfl (dn ?_)))))))))
     have hB686 : B_u_table_0 pC p_c k102 (x168, x169, x170) = .cont (((u_pick pC ((u_pick pC ((u_one pC (x168, x169) 3).2) (IntKind.wrap .i64 (((([] : List Str) ++ (([[107], [97], [98], [99, 99]] : List Str).take ((IntKind.wrap .i64 (2 + ((u_pick pC ((u_of pC p_c ([[116], [117]] : List Str)).2) 3).1))).toNat))).length : Int) - 1))).2) 4).2).1, ((u_pick pC ((u_pick pC ((u_one pC (x168, x169) 3).2) (IntKind.wrap .i64 (((([] : List Str) ++ (([[107], [97], [98], [99, 99]] : List Str).take ((IntKind.wrap .i64 (2 + ((u_pick pC ((u_of pC p_c ([[116], [117]] : List Str)).2) 3).1))).toNat))).length : Int) - 1))).2) 4).2).2, (x170 ++ ([(⟨(([[105], [106], [109]] : List Str).getD k102 d_Str), IntKind.wrap .i64 (1 + ((u_pick pC ((u_one pC (x168, x169) 3).2) (IntKind.wrap .i64 (((([] : List Str) ++ (([[107], [97], [98], [99, 99]] : List Str).take ((IntKind.wrap .i64 (2 + ((u_pick pC ((u_of pC p_c ([[116], [117]] : List Str)).2) 3).1))).toNat))).length : Int) - 1))).1)), (u_pick pC ((u_pick pC ((u_one pC (x168, x169) 3).2) (IntKind.wrap .i64 (((([] : List Str) ++ (([[107], [97], [98], [99, 99]] : List Str).take ((IntKind.wrap .i64 (2 + ((u_pick pC ((u_of pC p_c ([[116], [117]] : List Str)).2) 3).1))).toNat))).length : Int) - 1))).2) 4).1⟩ : DIdx)] : List DIdx))) := by simp only [B_u_table_0, hb242, cL]
     have q692 := Box.chg hf224 hc240 (by have := Box.lt hf224; simp only [InR, or_false]; omega)
     exact ⟨3 - (k102 + 1), by omega, k102 + 1, ((u_pick pC ((u_pick pC ((u_one pC (x168, x169) 3).2) (IntKind.wrap .i64 (((([] : List Str) ++ (([[107], [97], [98], [99, 99]] : List Str).take ((IntKind.wrap .i64 (2 + ((u_pick pC ((u_of pC p_c ([[116], [117]] : List Str)).2) 3).1))).toNat))).length : Int) - 1))).2) 4).2).1, ((u_pick pC ((u_pick pC ((u_one pC (x168, x169) 3).2) (IntKind.wrap .i64 (((([] : List Str) ++ (([[107], [97], [98], [99, 99]] : List Str).take ((IntKind.wrap .i64 (2 + ((u_pick pC ((u_of pC p_c ([[116], [117]] : List Str)).2) 3).1))).toNat))).length : Int) - 1))).2) 4).2).2, (x170 ++ ([(⟨(([[105], [106], [109]] : List Str).getD k102 d_Str), IntKind.wrap .i64 (1 + ((u_pick pC ((u_one pC (x168, x169) 3).2) (IntKind.wrap .i64 (((([] : List Str) ++ (([[107], [97], [98], [99, 99]] : List Str).take ((IntKind.wrap .i64 (2 + ((u_pick pC ((u_of pC p_c ([[116], [117]] : List Str)).2) 3).1))).toNat))).length : Int) - 1))).1)), (u_pick pC ((u_pick pC ((u_one pC (x168, x169) 3).2) (IntKind.wrap .i64 (((([] : List Str) ++ (([[107], [97], [98], [99, 99]] : List Str).take ((IntKind.wrap .i64 (2 + ((u_pick pC ((u_of pC p_c ([[116], [117]] : List Str)).2) 3).1))).toNat))).length : Int) - 1))).2) 4).1⟩ : DIdx)] : List DIdx)), A671, c672, hp676, lp675, rfl, hlt234, (by omega), rfl, rfl, rfl, rfl, rfl, rfl, (Box.only (Box.grown h654 hG678 (fun k hk => by have := hrg679 k hk; omega)) hO685 (by omega)), (RdS.only gU (RdS.grown gU (RdS.chg gU q495 hE633 (fun k hl hk => by simp only [InR, or_false, Iv, Ge] at hk ⊢; omega)) hG678 (fun k hk => by have := hrg679 k hk; simp only [Iv]; omega)) hO685 (by simp only [Iv]; omega)), (Box.only (Box.grown (Box.chg q692 hE633 (by have := Box.lt q692; simp only [InR, or_false]; omega)) hG678 (fun k hk => by have := hrg679 k hk; omega)) hO685 (by omega)), hB684, (OwnL.only gS (OwnL.grown gS (OwnL.chg gS (OwnL.chg gS hf226 hc240 (fun k hl hk => by simp only [InR, or_false] at hk; omega)) hE633 (fun k hl hk => by simp only [InR, or_false] at hk; omega)) hG678 (fun k hk => by have := hrg679 k hk; omega)) hO685 (by omega)), (OwnL.only gI hO677 hO685 (by omega)), (OwnL.only gS (OwnL.grown gS (OwnL.chg gS (OwnL.chg gS hf228 hc240 (fun k hl hk => by simp only [InR, or_false] at hk; omega)) hE633 (fun k hl hk => by simp only [InR, or_false] at hk; omega)) hG678 (fun k hk => by have := hrg679 k hk; omega)) hO685 (by omega)), (Chg.tonly (Chg.tgrown (Chg.tchg (Chg.tchg hf229 hc240 (fun k hk => by simp only [InR, or_false] at hk ⊢; omega)) hE633 (fun k hk => by simp only [InR, or_false] at hk ⊢; omega)) hG678 (fun k hk => by have := hrg679 k hk; simp only [InR, or_false]; omega)) hO685 (by simp only [InR, or_false]; omega)), (by omega), (by first | omega | (simp only [lN, toS_length]; omega)), (okE.append hok232 ((okL.mk (Nat.le_of_ble_eq_true rfl) (okE.cons (show ok_Idx (⟨(([[105], [106], [109]] : List Str).getD k102 d_Str), IntKind.wrap .i64 (1 + ((u_pick pC ((u_one pC (x168, x169) 3).2) (IntKind.wrap .i64 (((([] : List Str) ++ (([[107], [97], [98], [99, 99]] : List Str).take ((IntKind.wrap .i64 (2 + ((u_pick pC ((u_of pC p_c ([[116], [117]] : List Str)).2) 3).1))).toNat))).length : Int) - 1))).1)), (u_pick pC ((u_pick pC ((u_one pC (x168, x169) 3).2) (IntKind.wrap .i64 (((([] : List Str) ++ (([[107], [97], [98], [99, 99]] : List Str).take ((IntKind.wrap .i64 (2 + ((u_pick pC ((u_of pC p_c ([[116], [117]] : List Str)).2) 3).1))).toNat))).length : Int) - 1))).2) 4).1⟩ : DIdx) from (okL.getD (okL.mk (Nat.le_of_ble_eq_true rfl) (okE.cons (okS.lit rfl) (okE.cons (okS.lit rfl) (okE.cons (okS.lit rfl) okE.nil)))) ok_d_Str _)) okE.nil))).2), (by first | omega | assumption | (simp only [wI] at *; omega)), (loopM.cont hlt234 hB686).symm.trans hI214⟩
  ·refine CW.seq (CW.region (sd rfl (yl_lss rfl rfl rfl (dn (CW.seq (CW.cond_f rfl (lt_f hlt234) (CW.exit (tx ?_))))))))
   refine tx ?_
   have hL709 : loopM (B_u_table_0 pC p_c) (3 - 0) 0 (((u_pick pC ((u_of pC p_c ([[116], [117]] : List Str)).2) 3).2).1, ((u_pick pC ((u_of pC p_c ([[116], [117]] : List Str)).2) 3).2).2, ([] : List DIdx)) = .done (x168, x169, x170) := hI214.symm.trans (loopM.stop hlt234)
   refine bx (tn (CW.seq (CW.region (sd rfl (yl_loadN ty26 rfl rfl (hf225.cells (n := 3) rfl) rfl (SeqR.u rfl rfl (yl_store (vs := [.string (bs ((u_of pC p_c ([[116], [117]] : List Str)).1)), .slice A76 ((([] : List Str) ++ (([[107], [97], [98], [99, 99]] : List Str).take ((IntKind.wrap .i64 (2 + ((u_pick pC ((u_of pC p_c ([[116], [117]] : List Str)).2) 3).1))).toNat))).length) c77, .slice A171 x170.length c172]) ty26 rfl rfl rfl rfl rfl rfl hf224 (Nat.le_of_ble_eq_true rfl) ?_)))))))
   intro w710 hB711 hO712
   have hB711 : Box w710 b9 26 [.string (bs ((u_of pC p_c ([[116], [117]] : List Str)).1)), .slice A76 ((([] : List Str) ++ (([[107], [97], [98], [99, 99]] : List Str).take ((IntKind.wrap .i64 (2 + ((u_pick pC ((u_of pC p_c ([[116], [117]] : List Str)).2) 3).1))).toNat))).length) c77, .slice A171 x170.length c172] := hB711
   have hO712z := hO712.size
   refine dn (CW.ret (rr rfl (.cons ⟨_, rfl, run_loadN ty26 (cs := [.string (bs ((u_of pC p_c ([[116], [117]] : List Str)).1)), .slice A76 ((([] : List Str) ++ (([[107], [97], [98], [99, 99]] : List Str).take ((IntKind.wrap .i64 (2 + ((u_pick pC ((u_of pC p_c ([[116], [117]] : List Str)).2) 3).1))).toNat))).length) c77, .slice A171 x170.length c172]) rfl (hB711.cells (n := 3) rfl)⟩ .nil) ?_))
   have hM713 : (u_table pC p_c) = (((⟨(u_of pC p_c ([[116], [117]] : List Str)).1, (([] : List Str) ++ (([[107], [97], [98], [99, 99]] : List Str).take ((IntKind.wrap .i64 (2 + ((u_pick pC ((u_of pC p_c ([[116], [117]] : List Str)).2) 3).1))).toNat))), x170⟩ : DTable), (x168, x169))) := by first | (simp only [u_table, hL709, cL]; done) | (simp only [u_table, hL709, cond_true, cond_false, loopE_done, loopE_ret, pairE]; done) | exact (show (u_table pC p_c) = (((⟨(u_of pC p_c ([[116], [117]] : List Str)).1, (([] : List Str) ++ (([[107], [97], [98], [99, 99]] : List Str).take ((IntKind.wrap .i64 (2 + ((u_pick pC ((u_of pC p_c ([[116], [117]] : List Str)).2) 3).1))).toNat))), x170⟩ : DTable), (x168, x169))) from by simp only [u_table, hL709, cond_true, cond_false, loopE_done, loopE_ret, pairE])
   have hol716 : (([[107], [97], [98], [99, 99]] : List Str).take ((IntKind.wrap .i64 (2 + ((u_pick pC ((u_of pC p_c ([[116], [117]] : List Str)).2) 3).1))).toNat)).length ≤ 2147483648 := (okL.take (okL.mk (Nat.le_of_ble_eq_true rfl) (okE.cons (okS.lit rfl) (okE.cons (okS.lit rfl) (okE.cons (okS.lit rfl) (okE.cons (okS.lit rfl) okE.nil))))) _).1
   rw [hM713]
   exact ⟨A76, c77, lp80, hp81, A171, c172, lo174, u173, rfl, (OwnL.only gS hf226 hO712 (by omega)), (OwnL.only gI hf227 hO712 (by omega)), ⟨ho37, (okL.mk (xs := (([] : List Str) ++ (([[107], [97], [98], [99, 99]] : List Str).take ((IntKind.wrap .i64 (2 + ((u_pick pC ((u_of pC p_c ([[116], [117]] : List Str)).2) 3).1))).toNat)))) (by first | omega | (simp only [lN, toS_length]; omega)) (okE.append okE.nil ((okL.take (okL.mk (Nat.le_of_ble_eq_true rfl) (okE.cons (okS.lit rfl) (okE.cons (okS.lit rfl) (okE.cons (okS.lit rfl) (okE.cons (okS.lit rfl) okE.nil))))) _)).2)), (okL.mk (xs := x170) (by first | omega | (simp only [lN, toS_length]; omega)) hok232)⟩, (by (try dsimp only); first | omega | assumption | (simp only [List.length_append, List.length_take, List.length_drop, List.length_cons, List.length_nil, toS_length, wI]; omega) | (simp only [wI] at *; omega)), (by (try dsimp only); first | omega | assumption | (simp only [List.length_append, List.length_take, List.length_drop, List.length_cons, List.length_nil, toS_length, wI]; omega) | (simp only [wI] at *; omega)), (by (try dsimp only); first | omega | assumption | (simp only [List.length_append, List.length_take, List.length_drop, List.length_cons, List.length_nil, toS_length, wI]; omega) | (simp only [wI] at *; omega)), (Box.only hf222 hO712 (by omega)), (by omega), (by omega), (by omega), (Chg.tonly hf229 hO712 (by simp only [InR, or_false]; omega))⟩
theorem c_s_l24Join {A1 : Option Addr} {c1 : Nat} {w : World} (p_l : List Str) (p_by : Str) (h1 : RdS w (Iv 0 w.heap.size) (RF e_Str) 1 A1 p_l.length c1 p_l) (o2 : (okL okS) p_l) (o3 : okS p_by) : Cal Tryz.prog 93 #[.slice A1 p_l.length c1, .string (bs (p_by))] w fun v w' => v = .string (bs ((s_l24Join p_l p_by))) ∧ Ex w w' := by
 have hol4 := o2.1
 have hol5 : p_by.length ≤ 1073741824 := o3
 refine Cal.of func93 rfl ntmps93 rfl (CW.seq (CW.region (sd rfl (yA rfl rfl (dn (CW.seq (CW.region (sd rfl (yA rfl rfl ?_)))))))))
 refine dn (CW.seq (CW.seq (CW.region (sd rfl (yM rfl rfl (sd rfl (yL un23 rfl rfl (sd rfl (yM rfl rfl (SeqR.done ?_))))))))))
 refine tn (CW.block (CW.loop (fun m15 L16 w17 => ∃ (k6 : Nat) (x14 : Str), m15 = p_l.length - k6 ∧ k6 ≤ p_l.length ∧ w.heap.size ≤ w17.heap.size ∧ lkp L16 1 = some (.string (bs (p_by))) ∧ lkp L16 5 = some (.string (bs (x14))) ∧ lkp L16 8 = some (.slice A1 p_l.length c1) ∧ lkp L16 9 = some (.int .i64 ((p_l.length : Int))) ∧ lkp L16 10 = some (.int .i64 ((k6 : Int))) ∧ RdS w17 (Iv 0 w.heap.size) (RF e_Str) 1 A1 p_l.length c1 p_l ∧ Ex w w17 ∧ x14.length ≤ 0 + 2147483648 * (k6 - 0) ∧ loopM (B_s_l24Join_0 p_l p_by) (p_l.length - k6) k6 (x14) = loopM (B_s_l24Join_0 p_l p_by) (p_l.length - 0) 0 (([] : Str))) (p_l.length - 0) ?_ ?_))
 ·exact ⟨0, ([] : Str), rfl, (by omega), Nat.le_refl _, rfl, rfl, rfl, rfl, rfl, h1, (Ex.refl w), (by first | (simp; done) | (first | omega | (simp only [lN, toS_length]; omega))), rfl⟩
 ·rintro m18 L19 w20 ⟨k6, x14, rfl, hk21, hsz23, hl24, hl25, hl26, hl27, hl28, hf29, hf30, hln31, hI22⟩
  refine CW.sub (Sub.cons hl24 (Sub.cons hl25 (Sub.cons hl26 (Sub.cons hl27 (Sub.cons hl28 (Sub.nil _)))))) ?_
  have hf30z := Ex.size hf30
  have hbg32 := RdS.big hf29
  rcases Nat.lt_or_ge k6 p_l.length with hlt33 | hlt33
  ·refine CW.seq (CW.region (sd rfl (yl_lss rfl rfl rfl (dn (CW.seq (CW.cond_t rfl (lt_t hlt33) (CW.skip (tn ?_))))))))
   refine CW.seq (CW.block (CW.seq (CW.region (sd rfl (yM rfl rfl ?_)))))
   obtain ⟨eb34, eo34, _, eA34, _, ebl34, _, eR34, eC34⟩ := RdS.aD hf29 d_Str (i := k6)
   obtain rfl := eR34
   have eC34 : Cells w20 eb34 (eo34 + k6 * 1) [.string (bs ((p_l.getD k6 d_Str)))] := eC34
   refine sd rfl (yl_ixN un23 ty9 rfl rfl rfl eA34 (sd rfl (yl_load1 ty9 rfl rfl (eC34 0 _ rfl) (sd rfl (yA rfl rfl (sd rfl (yA rfl rfl (dn (CW.seq (CW.seq (CW.region ?_)))))))))))
   refine sd rfl (yM rfl rfl (sd rfl (yl_gtr rfl rfl rfl (dn (bcase (decide (0 < (k6 : Int))) (fun hb35 => ?_) (fun hb35 => ?_))))))
   ·have hb35p := dec_t hb35
    refine CW.cond_t rfl hb35 (CW.region (sd rfl (yM rfl rfl (sd rfl (yM rfl rfl ?_)))))
    have hol36 : p_by.length ≤ 1073741824 := o3
    refine sd rfl (yl_sadd (a := x14) (b := p_by) rfl rfl rfl (by first | omega | (simp only [lN, toS_length]; omega)) (sd rfl (yA rfl rfl (dn (CW.region (sd rfl (yM rfl rfl (sd rfl (yM rfl rfl ?_)))))))))
    have hol37 : p_by.length ≤ 1073741824 := o3
    have hol38 : (p_l.getD k6 d_Str).length ≤ 1073741824 := (okL.getD o2 ok_d_Str _)
    refine sd rfl (yl_sadd (a := (x14 ++ p_by)) (b := (p_l.getD k6 d_Str)) rfl rfl rfl (by first | omega | (simp only [lN, toS_length]; omega)) (sd rfl (yA rfl rfl (SeqR.done (bn (tn (CW.region (sd rfl (yl_inc rfl rfl rfl (by omega) (sd rfl (yM rfl rfl (SeqR.done ?_))))))))))))
    refine tn ?_
    have hB39 : B_s_l24Join_0 p_l p_by k6 (x14) = .cont ((x14 ++ p_by) ++ (p_l.getD k6 d_Str)) := by simp only [B_s_l24Join_0, hb35, cL]
    exact ⟨p_l.length - (k6 + 1), by omega, k6 + 1, (x14 ++ p_by) ++ (p_l.getD k6 d_Str), rfl, hlt33, (by omega), rfl, rfl, rfl, rfl, rfl, hf29, hf30, (by first | omega | (simp only [lN, toS_length]; omega)), (loopM.cont hlt33 hB39).symm.trans hI22⟩
   ·have hb35p := dec_f hb35
    refine CW.cond_f rfl hb35 (CW.skip (tn (CW.region (sd rfl (yM rfl rfl (sd rfl (yM rfl rfl ?_)))))))
    have hol40 : (p_l.getD k6 d_Str).length ≤ 1073741824 := (okL.getD o2 ok_d_Str _)
    refine sd rfl (yl_sadd (a := x14) (b := (p_l.getD k6 d_Str)) rfl rfl rfl (by first | omega | (simp only [lN, toS_length]; omega)) (sd rfl (yA rfl rfl (SeqR.done (bn (tn (CW.region (sd rfl (yl_inc rfl rfl rfl (by omega) (sd rfl (yM rfl rfl (SeqR.done ?_))))))))))))
    refine tn ?_
    have hB41 : B_s_l24Join_0 p_l p_by k6 (x14) = .cont (x14 ++ (p_l.getD k6 d_Str)) := by simp only [B_s_l24Join_0, hb35, cL]
    exact ⟨p_l.length - (k6 + 1), by omega, k6 + 1, x14 ++ (p_l.getD k6 d_Str), rfl, hlt33, (by omega), rfl, rfl, rfl, rfl, rfl, hf29, hf30, (by first | omega | (simp only [lN, toS_length]; omega)), (loopM.cont hlt33 hB41).symm.trans hI22⟩
  ·refine CW.seq (CW.region (sd rfl (yl_lss rfl rfl rfl (dn (CW.seq (CW.cond_f rfl (lt_f hlt33) (CW.exit (tx ?_))))))))
   refine tx ?_
   have hL42 : loopM (B_s_l24Join_0 p_l p_by) (p_l.length - 0) 0 (([] : Str)) = .done (x14) := hI22.symm.trans (loopM.stop hlt33)
   refine bx (tn (CW.seq (CW.region (sd rfl (yM rfl rfl (sd rfl (yA rfl rfl (dn (CW.ret ?_)))))))))
   refine rr rfl (.cons rfl .nil) ?_
   have hM43 : (s_l24Join p_l p_by) = (x14) := by simp only [s_l24Join, hL42, cL]
   rw [hM43]
   exact ⟨rfl, hf30⟩
theorem c_s_l25Write {A1 : Option Addr} {c1 : Nat} {A2 : Option Addr} {c2 : Nat} {A4 : Option Addr} {c4 : Nat} {w : World} (p_t : DTable) (p_r : DRow) (h1 : RdS w (Iv 0 w.heap.size) (RF e_Str) 1 A1 p_t.Cols.length c1 p_t.Cols) (h2 : RdS w (Iv 0 w.heap.size) (RF e_Idx) 3 A2 p_t.Idxs.length c2 p_t.Idxs) (h4 : RdS w (Iv 0 w.heap.size) (RF e_Str) 1 A4 p_r.Vals.length c4 p_r.Vals) (o3 : ok_Table p_t) (o5 : ok_Row p_r) (pre0 : 0 < p_r.Vals.length) : Cal Tryz.prog 68 #[.agg #[.string (bs (p_t.Name)), .slice A1 p_t.Cols.length c1, .slice A2 p_t.Idxs.length c2], .agg #[.slice A4 p_r.Vals.length c4]] w fun v w' => v = .agg #[.string (bs ((s_l25Write p_t p_r).Key)), .string (bs ((s_l25Write p_t p_r).Val)), .bool ((s_l25Write p_t p_r).Gone)] ∧ Ex w w' := by
 have hol6 : p_t.Name.length ≤ 1073741824 := o3.1
 have hol7 := o3.2.1.1
 have hol8 := o3.2.2.1
 have hol9 := o5.1
 refine Cal.of func68 rfl ntmps68 rfl (CW.seq (CW.region (sd rfl (yl_box rfl rfl rfl ?_))))
 intro b10 w11 hs12 hz13 hB14 hE15
 refine sd rfl (yl_box rfl rfl rfl ?_)
 intro b16 w17 hs18 hz19 hB20 hE21
 refine sd rfl (yB ty66 (cs := [.string (bs (([] : Str))), .string (bs (([] : Str))), .bool (false)]) rfl rfl ?_)
 intro b22 w23 hs24 hz25 hB26 hE27
 refine dn (CW.seq ?_)
 have hol30 : p_t.Name.length ≤ 1073741824 := o3.1
 have q31 := Box.ex hB20 hE27
 have q34 := RdS.ex gS (RdS.ex gS (RdS.ex gS h4 hE15) hE21) hE27
 obtain ⟨eb35, eo35, _, eA35, _, ebl35, _, eR35, eC35⟩ := RdS.aD q34 d_Str (i := 0)
 obtain rfl := eR35
 have eC35 : Cells w23 eb35 (eo35 + 0 * 1) [.string (bs ((p_r.Vals.getD 0 d_Str)))] := eC35
 have hol36 : p_t.Name.length ≤ 1073741824 := o3.1
 have hol37 : (p_r.Vals.getD 0 d_Str).length ≤ 1073741824 := (okL.getD o5 ok_d_Str _)
 obtain ⟨A38, c39, he42, h41⟩ := RdS.sl (RdS.drop q34 (k := 1) (by omega))
 have hrc43 := (q34).2.1
 refine CW.drawsI 12 (vgetI [DetI (.pointer (some ⟨b10, 0 + 0, none⟩)), DetI (.string (bs (p_t.Name))), DetI (.string (bs (p_t.Name ++ ([47] : Str)))), DetI (.pointer (some ⟨b16, 0 + 0, none⟩)), DetI (.slice A4 p_r.Vals.length c4), DetI (.pointer (some ⟨eb35, eo35 + 0 * 1, none⟩)), DetI (.string (bs ((p_r.Vals.getD 0 d_Str)))), DetI (.string (bs ((p_t.Name ++ ([47] : Str)) ++ (p_r.Vals.getD 0 d_Str)))), DetI (.pointer (some ⟨b16, 0 + 0, none⟩)), DetI (.slice A4 p_r.Vals.length c4), fun lo hi v wq => ∃ A38 c39, v = .slice A38 ((p_r.Vals.drop 1).length) c39 ∧ RdS wq (Iv 0 w.heap.size) (RF e_Str) 1 A38 (p_r.Vals.drop 1).length c39 (p_r.Vals.drop 1), DetI (.string (bs ((s_l24Join (p_r.Vals.drop 1) ([44] : Str)))))]) Tryz.follows rfl rfl rfl rfl rfl rfl (vgetI_stable ⟨StableI.det _, StableI.det _, StableI.det _, StableI.det _, StableI.det _, StableI.det _, StableI.det _, StableI.det _, StableI.det _, StableI.det _, (fun _ _ _ _ _ ⟨A38, c39, hv, h44⟩ e => ⟨A38, c39, hv, RdS.ex gS h44 e⟩), StableI.det _, trivial⟩) ⟨?_, ?_, ?_, ?_, ?_, ?_, ?_, ?_, ?_, ?_, ?_, ?_, trivial⟩ ?_
 ·exact oI rfl fun h => yl_fieldAddr fd26_0 rfl (h.old 2 _ rfl rfl) kI
 ·exact oI rfl fun h => yl_load1 ty9 rfl (h.dt 0 5 rfl rfl rfl) (((Box.ex (Box.ex (Box.ex hB14 hE21) hE27) h.ex).cell 0).trans rfl) kI
 ·intro L57 w58 hi59
  have hE60 := hi59.ex
  have hE60z := Ex.size hE60
  have hol62 : p_t.Name.length ≤ 1073741824 := o3.1
  exact os rfl ((yl_sadd (a := p_t.Name) (b := ([47] : Str)) rfl (hi59.dt 1 6 rfl rfl rfl) rfl (by first | omega | (simp only [lN, toS_length]; omega)) kI))
 ·exact oI rfl fun h => yl_fieldAddr fd38_0 rfl (h.old 3 _ rfl rfl) kI
 ·exact oI rfl fun h => yl_load1 ty23 rfl (h.dt 3 8 rfl rfl rfl) (((Box.ex q31 h.ex).cell 0).trans rfl) kI
 ·intro L74 w75 hi76
  have hE77 := hi76.ex
  have hE77z := Ex.size hE77
  exact os rfl ((yl_ixN un23 ty9 rfl (hi76.dt 4 9 rfl rfl rfl) rfl eA35 kI))
 ·exact oI rfl fun h => yl_load1 ty9 rfl (h.dt 5 10 rfl rfl rfl) ((Cells.ex eC35 h.ex) 0 _ rfl) kI
 ·intro L85 w86 hi87
  have hE88 := hi87.ex
  have hE88z := Ex.size hE88
  have hol91 : p_t.Name.length ≤ 1073741824 := o3.1
  have hol92 : (p_r.Vals.getD 0 d_Str).length ≤ 1073741824 := (okL.getD o5 ok_d_Str _)
  exact os rfl ((yl_sadd (a := (p_t.Name ++ ([47] : Str))) (b := (p_r.Vals.getD 0 d_Str)) rfl (hi87.dt 2 7 rfl rfl rfl) (hi87.dt 6 11 rfl rfl rfl) (by first | omega | (simp only [lN, toS_length]; omega)) kI))
 ·exact oI rfl fun h => yl_fieldAddr fd38_0 rfl (h.old 3 _ rfl rfl) kI
 ·exact oI rfl fun h => yl_load1 ty23 rfl (h.dt 8 13 rfl rfl rfl) (((Box.ex q31 h.ex).cell 0).trans rfl) kI
 ·intro L104 w105 hi106
  have hE107 := hi106.ex
  have hE107z := Ex.size hE107
  have q109 := RdS.ex gS q34 hE107
  obtain ⟨A110, c111, he114, h113⟩ := RdS.sl (RdS.drop q109 (k := 1) (by omega))
  have hrc115 := (q109).2.1
  exact os rfl ((yl_sliceR (kh := .i64) (l := 1) (h := p_r.Vals.length) un23 ty9 rfl (hi106.dt 9 14 rfl rfl rfl) (.inr ⟨_, rfl, rfl⟩) (.inl ⟨rfl, rfl⟩) (by omega) (by omega) he114 ⟨fun _ _ => ⟨A110, c111, rfl, h113⟩, rfl⟩))
 ·intro L116 w117 hi118
  obtain ⟨lo121, hh122, _, hx120, hr123, hr124, hr125, A38_126, c39_127, rfl, h128⟩ := hi118.dep 10 15 rfl rfl
  exact OpR.op' rfl (yC en93 rfl (oc hx120 (oc rfl oz)) (Cal.mono (c_s_l24Join (p_r.Vals.drop 1) ([44] : Str) (RdS.up h128 gS) (okL.drop o5 _) (okS.lit rfl)) fun _ _ h => h))
 ·intro fl135 fh136 L132 w133 hp134
  have hE137 := hp134.ex
  have hE137z := Ex.size hE137
  have hx138 := hp134.old 4 _ rfl rfl
  refine sd rfl (yl_build (cs := [.string (bs ((p_t.Name ++ ([47] : Str)) ++ (p_r.Vals.getD 0 d_Str))), .string (bs ((s_l24Join (p_r.Vals.drop 1) ([44] : Str)))), .bool (false)]) rfl (oc (hp134.nt 7 12 rfl rfl rfl) (oc (hp134.nt 11 16 rfl rfl rfl) oz)) (by kernel_rfl) (SeqR.u rfl rfl (yl_store (vs := [.string (bs ((p_t.Name ++ ([47] : Str)) ++ (p_r.Vals.getD 0 d_Str))), .string (bs ((s_l24Join (p_r.Vals.drop 1) ([44] : Str)))), .bool (false)]) ty66 rfl hx138 rfl rfl rfl rfl (Box.ex hB26 hE137) (Nat.le_of_ble_eq_true rfl) ?_)))
  intro w142 hB143 hO144
  have hB143 : Box w142 b22 66 [.string (bs ((p_t.Name ++ ([47] : Str)) ++ (p_r.Vals.getD 0 d_Str))), .string (bs ((s_l24Join (p_r.Vals.drop 1) ([44] : Str)))), .bool (false)] := hB143
  have hO144z := hO144.size
  refine dn (CW.sub (Sub.cons (d := 4) hx138 (Sub.nil _)) (CW.ret (rr rfl (.cons ⟨_, rfl, run_loadN ty66 (cs := [.string (bs ((p_t.Name ++ ([47] : Str)) ++ (p_r.Vals.getD 0 d_Str))), .string (bs ((s_l24Join (p_r.Vals.drop 1) ([44] : Str)))), .bool (false)]) rfl (hB143.cells (n := 3) rfl)⟩ .nil) ?_)))
  have hM145 : (s_l25Write p_t p_r) = ((⟨(p_t.Name ++ ([47] : Str)) ++ (p_r.Vals.getD 0 d_Str), (s_l24Join (p_r.Vals.drop 1) ([44] : Str)), false⟩ : DWrite)) := by simp only [s_l25Write, cL]
  rw [hM145]
  exact ⟨rfl, (Below.only (Ex.trans (Ex.trans (Ex.trans (Ex.trans (Ex.refl w) hE15) hE21) hE27) hE137) hO144 (by omega))⟩
theorem c_s_l1Split {w : World} (p_s : Str) (p_b : Int) (o1 : okS p_s) : Cal Tryz.prog 74 #[.string (bs (p_s)), .int .u8 (p_b)] w fun v w' => ∃ A_1 c_1 lo_1 hi_1, v = .slice A_1 ((s_l1Split p_s p_b).length) c_1 ∧ OwnL w' lo_1 hi_1 9 1 (RF e_Str) A_1 ((s_l1Split p_s p_b).length) c_1 (s_l1Split p_s p_b) ∧ (okL okS) (s_l1Split p_s p_b) ∧ (w.heap.size ≤ lo_1 ∧ lo_1 ≤ hi_1 ∧ hi_1 ≤ w'.heap.size) ∧ Ex w w' := by
 have hol2 : p_s.length ≤ 1073741824 := o1
 refine Cal.of func74 rfl ntmps74 rfl (CW.seq (CW.region (sd rfl (yA rfl rfl (dn (CW.seq (CW.region (sd rfl (yA rfl rfl ?_)))))))))
 refine dn (CW.seq (CW.region (sd rfl (yA rfl rfl (dn (CW.seq (CW.seq ?_)))))))
 refine CW.region (sd rfl (yA rfl rfl (dn (CW.block (CW.loop (fun m26 L27 w28 => ∃ (k3 : Nat) (x21 : List Str) (x25 : Int) (A22 : Option Addr) (c23 : Nat) (u24 : Nat), m26 = p_s.length - k3 ∧ k3 ≤ p_s.length ∧ w.heap.size ≤ w28.heap.size ∧ lkp L27 0 = some (.string (bs (p_s))) ∧ lkp L27 1 = some (.int .u8 (p_b)) ∧ lkp L27 5 = some (.slice A22 x21.length c23) ∧ lkp L27 6 = some (.int .i64 (x25)) ∧ lkp L27 7 = some (.int .i64 ((k3 : Int))) ∧ OwnL w28 w.heap.size u24 9 1 (RF e_Str) A22 x21.length c23 x21 ∧ Ex w w28 ∧ (w.heap.size ≤ u24 ∧ u24 ≤ w28.heap.size) ∧ x21.length ≤ 0 + 1 * (k3 - 0) ∧ (∀ y ∈ x21, okS y) ∧ 0 ≤ x25 ∧ x25 ≤ (k3 : Int) ∧ loopM (B_s_l1Split_0 p_s p_b) (p_s.length - k3) k3 (x21, x25) = loopM (B_s_l1Split_0 p_s p_b) (p_s.length - 0) 0 (([] : List Str), 0)) (p_s.length - 0) ?_ ?_)))))
 ·exact ⟨0, ([] : List Str), 0, none, 0, w.heap.size, rfl, (by omega), Nat.le_refl _, rfl, rfl, rfl, rfl, rfl, (OwnL.nil w w.heap.size w.heap.size 9 1 (RF e_Str)), (Ex.refl w), (by omega), (by first | (simp; done) | (first | omega | (simp only [lN, toS_length]; omega))), okE.nil, (by first | omega | assumption | (simp only [wI] at *; omega)), (by first | omega | assumption | (simp only [wI] at *; omega)), rfl⟩
 ·rintro m29 L30 w31 ⟨k3, x21, x25, A22, c23, u24, rfl, hk32, hsz34, hl35, hl36, hl37, hl38, hl39, hf40, hf41, hu42, hln43, hok44, hv45, hv46, hI33⟩
  refine CW.sub (Sub.cons hl35 (Sub.cons hl36 (Sub.cons hl37 (Sub.cons hl38 (Sub.cons hl39 (Sub.nil _)))))) ?_
  have hf41z := Ex.size hf41
  have hbg47 : p_s.length ≤ 1073741824 := o1
  rcases Nat.lt_or_ge k3 p_s.length with hlt48 | hlt48
  ·refine CW.seq (CW.seq (CW.region (sd rfl (yM rfl rfl (sd rfl (yM rfl rfl (sd rfl (yl_slen un9 (a := p_s) rfl rfl (sd rfl (yl_lss rfl rfl rfl (dn ?_)))))))))))
   refine CW.cond_t rfl (lt_t hlt48) (CW.skip (tn (CW.seq (CW.block (CW.seq (CW.region (sd rfl (yM rfl rfl (sd rfl (yM rfl rfl ?_))))))))))
   refine sd rfl (yl_sindexN un9 (a := p_s) rfl rfl rfl (by first | omega | assumption | (simp only [wI] at *; omega)) (sd rfl (yM rfl rfl (sd rfl (yl_eql rfl rfl rfl (dn (bcase (decide (((p_s.getD k3 0).toNat : Int) = p_b)) (fun hb49 => ?_) (fun hb49 => ?_))))))))
   ·have hb49p := dec_t hb49
    refine CW.cond_t rfl hb49 (CW.seq (CW.region (sd rfl (yM rfl rfl (sd rfl (yM rfl rfl (sd rfl (yM rfl rfl (sd rfl (yM rfl rfl (sd rfl (yl_sslice_lh un9 (a := p_s) (l := (x25).toNat) (h := k3) rfl rfl (toNat_op rfl (by omega)) rfl (by omega) (by omega) (sd rfl (yl_buildSlice (cs := [.string (bs (((p_s.take k3).drop ((x25).toNat))))]) un23 ty9 (by decide) rfl (oc rfl oz) (by kernel_rfl) ?_))))))))))))))
    intro b50 w51 hs52 hz53 hB54 hE55
    have hO56 : OwnL w51 b50 (b50 + 1) 9 1 (RF e_Str) (some ⟨b50, 0, none⟩) 1 1 ([((p_s.take k3).drop ((x25).toNat))] : List Str) := OwnL.of_box (S := fun _ => False) hB54 (Nat.le_refl _) (Nat.lt_succ_self _) (EncL.cons (c := [.string (bs (((p_s.take k3).drop ((x25).toNat))))]) rfl rfl EncL.nil) (Nat.le_of_ble_eq_true rfl) (fun h => h) (fun _ h => False.elim h)
    refine sd rfl (yl_appendL (S := (fun _ => False)) (lo := w.heap.size) (hi := u24) (xs := x21) (ys := ([((p_s.take k3).drop ((x25).toNat))] : List Str)) gS un23 ty9 rfl (Nat.le_of_ble_eq_true rfl) rfl rfl rfl (OwnL.ex gS hf40 hE55) (EncL.cons (c := [.string (bs (((p_s.take k3).drop ((x25).toNat))))]) rfl rfl EncL.nil) (Or.inr ⟨_, _, rfl, rfl, hB54.cells (o := 0) (n := 1) rfl⟩) rfl (by first | omega | (simp only [lN, toS_length]; omega)) (by first | omega | (simp only [lN, toS_length]; omega)) (by omega) (by omega) (fun _ h _ => False.elim h) (by omega) ?_)
    intro A58 c59 w60 row61 hO62 hG63 hrg64
    have hG63z := hG63.size
    refine sd rfl (yA rfl rfl (dn (CW.region (sd rfl (yM rfl rfl (sd rfl (yl_inc rfl rfl rfl (by omega) (sd rfl (yA rfl rfl (SeqR.done (bn ?_)))))))))))
    refine tn (CW.region (sd rfl (yM rfl rfl (sd rfl (yl_inc rfl rfl rfl (by omega) (sd rfl (yA rfl rfl (dn ?_))))))))
    have hB65 : B_s_l1Split_0 p_s p_b k3 (x21, x25) = .cont ((x21 ++ ([((p_s.take k3).drop ((x25).toNat))] : List Str)), ((k3 + 1 : Nat) : Int)) := by simp only [B_s_l1Split_0, hb49, cL]
    exact ⟨p_s.length - (k3 + 1), by omega, k3 + 1, (x21 ++ ([((p_s.take k3).drop ((x25).toNat))] : List Str)), ((k3 + 1 : Nat) : Int), A58, c59, w60.heap.size, rfl, hlt48, (by omega), rfl, rfl, rfl, rfl, rfl, hO62, (Below.grown (Ex.trans hf41 hE55) hG63 (by omega) (fun k hk => by have := hrg64 k hk; omega)), (by omega), (by first | omega | (simp only [lN, toS_length]; omega)), (okE.append hok44 ((okL.mk (Nat.le_of_ble_eq_true rfl) (okE.cons (okS.drop (okS.take o1 _) _) okE.nil))).2), (by first | omega | assumption | (simp only [wI] at *; omega)), (by first | omega | assumption | (simp only [wI] at *; omega)), (loopM.cont hlt48 hB65).symm.trans hI33⟩
   ·have hb49p := dec_f hb49
    refine CW.cond_f rfl hb49 (CW.skip (bn (tn (CW.region (sd rfl (yM rfl rfl (sd rfl (yl_inc rfl rfl rfl (by omega) (sd rfl (yA rfl rfl (SeqR.done ?_)))))))))))
    refine tn ?_
    have hB68 : B_s_l1Split_0 p_s p_b k3 (x21, x25) = .cont (x21, x25) := by simp only [B_s_l1Split_0, hb49, cL]
    exact ⟨p_s.length - (k3 + 1), by omega, k3 + 1, x21, x25, A22, c23, u24, rfl, hlt48, (by omega), rfl, rfl, rfl, rfl, rfl, hf40, hf41, (by omega), (by first | omega | (simp only [lN, toS_length]; omega)), hok44, (by first | omega | assumption | (simp only [wI] at *; omega)), (by first | omega | assumption | (simp only [wI] at *; omega)), (loopM.cont hlt48 hB68).symm.trans hI33⟩
  ·refine CW.seq (CW.seq (CW.region (sd rfl (yM rfl rfl (sd rfl (yM rfl rfl (sd rfl (yl_slen un9 (a := p_s) rfl rfl (sd rfl (yl_lss rfl rfl rfl (dn ?_)))))))))))
   refine CW.cond_f rfl (lt_f hlt48) (CW.exit (tx (tx ?_)))
   have hL69 : loopM (B_s_l1Split_0 p_s p_b) (p_s.length - 0) 0 (([] : List Str), 0) = .done (x21, x25) := hI33.symm.trans (loopM.stop hlt48)
   refine bx (tn (CW.seq (CW.region (sd rfl (yM rfl rfl (sd rfl (yM rfl rfl (sd rfl (yM rfl rfl (sd rfl (yl_sslice_lo un9 (a := p_s) (l := (x25).toNat) rfl rfl (toNat_op rfl (by omega)) (by omega) (sd rfl (yl_buildSlice (cs := [.string (bs ((p_s.drop ((x25).toNat))))]) un23 ty9 (by decide) rfl (oc rfl oz) (by kernel_rfl) ?_)))))))))))))
   intro b70 w71 hs72 hz73 hB74 hE75
   have hO76 : OwnL w71 b70 (b70 + 1) 9 1 (RF e_Str) (some ⟨b70, 0, none⟩) 1 1 ([(p_s.drop ((x25).toNat))] : List Str) := OwnL.of_box (S := fun _ => False) hB74 (Nat.le_refl _) (Nat.lt_succ_self _) (EncL.cons (c := [.string (bs ((p_s.drop ((x25).toNat))))]) rfl rfl EncL.nil) (Nat.le_of_ble_eq_true rfl) (fun h => h) (fun _ h => False.elim h)
   refine sd rfl (yl_appendL (S := (fun _ => False)) (lo := w.heap.size) (hi := u24) (xs := x21) (ys := ([(p_s.drop ((x25).toNat))] : List Str)) gS un23 ty9 rfl (Nat.le_of_ble_eq_true rfl) rfl rfl rfl (OwnL.ex gS hf40 hE75) (EncL.cons (c := [.string (bs ((p_s.drop ((x25).toNat))))]) rfl rfl EncL.nil) (Or.inr ⟨_, _, rfl, rfl, hB74.cells (o := 0) (n := 1) rfl⟩) rfl (by first | omega | (simp only [lN, toS_length]; omega)) (by first | omega | (simp only [lN, toS_length]; omega)) (by omega) (by omega) (fun _ h _ => False.elim h) (by omega) ?_)
   intro A78 c79 w80 row81 hO82 hG83 hrg84
   have hG83z := hG83.size
   refine sd rfl (yA rfl rfl (dn (CW.ret (rr rfl (.cons rfl .nil) ?_))))
   have hM85 : (s_l1Split p_s p_b) = ((x21 ++ ([(p_s.drop ((x25).toNat))] : List Str))) := by simp only [s_l1Split, hL69, cL]
   rw [hM85]
   exact ⟨A78, c79, w.heap.size, w80.heap.size, rfl, hO82, (okL.mk (xs := (x21 ++ ([(p_s.drop ((x25).toNat))] : List Str))) (by first | omega | (simp only [lN, toS_length]; omega)) (okE.append hok44 ((okL.mk (Nat.le_of_ble_eq_true rfl) (okE.cons (okS.drop o1 _) okE.nil))).2)), (by omega), (Below.grown (Ex.trans hf41 hE75) hG83 (by omega) (fun k hk => by have := hrg84 k hk; omega))⟩
theorem c_s_l1In {w : World} (p_n : Int) (p_lo : Int) (p_hi : Int) : Cal Tryz.prog 59 #[.int .i64 (p_n), .int .i64 (p_lo), .int .i64 (p_hi)] w fun v w' => v = .bool ((s_l1In p_n p_lo p_hi)) ∧ Ex w w' := by
 refine Cal.of func59 rfl ntmps59 rfl (CW.seq (CW.region (sd rfl (yA rfl rfl (dn (CW.seq (CW.region (sd rfl (yM rfl rfl ?_)))))))))
 refine sd rfl (yM rfl rfl (sd rfl (yl_geq rfl rfl rfl (sd rfl (yM rfl rfl (bcase (decide (p_lo ≤ p_n)) (fun hb1 => ?_) (fun hb1 => ?_)))))))
 ·have hb1p := dec_t hb1
  refine sy rfl rfl hb1 (yM rfl rfl (sy rfl rfl hb1 (yM rfl rfl (sy rfl rfl hb1 (yl_leq rfl rfl rfl (sd rfl (yl_pick_t rfl rfl hb1 rfl (sd rfl (yA rfl rfl (dn (CW.ret (rr rfl (.cons rfl .nil) ?_))))))))))))
  have hM2 : (s_l1In p_n p_lo p_hi) = (decide (p_n ≤ p_hi)) := by simp only [s_l1In, hb1, cL]
  rw [hM2]
  exact ⟨rfl, (Ex.refl w)⟩
 ·have hb1p := dec_f hb1
  refine sz rfl rfl hb1 (sz rfl rfl hb1 (sz rfl rfl hb1 (sd rfl (yl_pick_f rfl rfl hb1 rfl (sd rfl (yA rfl rfl (dn (CW.ret (rr rfl (.cons rfl .nil) ?_)))))))))
  have hM3 : (s_l1In p_n p_lo p_hi) = (false) := by simp only [s_l1In, hb1, cL]
  rw [hM3]
  exact ⟨rfl, (Ex.refl w)⟩
theorem c_s_l3Bytes {w : World} (p_s : Str) (p_more : Str) (o1 : okS p_s) (o2 : okS p_more) : Cal Tryz.prog 97 #[.string (bs (p_s)), .string (bs (p_more))] w fun v w' => v = .bool ((s_l3Bytes p_s p_more)) ∧ Ex w w' := by
 have hol3 : p_s.length ≤ 1073741824 := o1
 have hol4 : p_more.length ≤ 1073741824 := o2
 refine Cal.of func97 rfl ntmps97 rfl (CW.seq (CW.region (sd rfl (yA rfl rfl (dn (CW.seq (CW.seq (CW.region ?_))))))))
 refine sd rfl (yA rfl rfl (dn (CW.block (CW.loop (fun m6 L7 w8 => ∃ (k5 : Nat), m6 = p_s.length - k5 ∧ k5 ≤ p_s.length ∧ w.heap.size ≤ w8.heap.size ∧ lkp L7 0 = some (.string (bs (p_s))) ∧ lkp L7 1 = some (.string (bs (p_more))) ∧ lkp L7 5 = some (.int .i64 ((k5 : Int))) ∧ Ex w w8 ∧ loopM (B_s_l3Bytes_0 p_s p_more) (p_s.length - k5) k5 () = loopM (B_s_l3Bytes_0 p_s p_more) (p_s.length - 0) 0 ()) (p_s.length - 0) ?_ ?_))))
 ·exact ⟨0, rfl, (by omega), Nat.le_refl _, rfl, rfl, rfl, (Ex.refl w), rfl⟩
 ·rintro m9 L10 w11 ⟨k5, rfl, hk12, hsz14, hl15, hl16, hl17, hf18, hI13⟩
  refine CW.sub (Sub.cons hl15 (Sub.cons hl16 (Sub.cons hl17 (Sub.nil _)))) ?_
  have hf18z := Ex.size hf18
  have hbg19 : p_s.length ≤ 1073741824 := o1
  rcases Nat.lt_or_ge k5 p_s.length with hlt20 | hlt20
  ·refine CW.seq (CW.seq (CW.region (sd rfl (yM rfl rfl (sd rfl (yM rfl rfl (sd rfl (yl_slen un9 (a := p_s) rfl rfl (sd rfl (yl_lss rfl rfl rfl (dn ?_)))))))))))
   refine CW.cond_t rfl (lt_t hlt20) (CW.skip (tn (CW.seq (CW.block (CW.seq (CW.region (sd rfl (yM rfl rfl (sd rfl (yM rfl rfl ?_))))))))))
   refine sd rfl (yl_sindexN un9 (a := p_s) rfl rfl rfl (by first | omega | assumption | (simp only [wI] at *; omega)) (sd rfl (yl_geq rfl rfl rfl (sd rfl (yM rfl rfl (bcase (decide (97 ≤ ((p_s.getD k5 0).toNat : Int))) (fun hb21 => ?_) (fun hb21 => ?_)))))))
   ·have hb21p := dec_t hb21
    refine sy rfl rfl hb21 (yM rfl rfl (sy rfl rfl hb21 (yM rfl rfl (sy rfl rfl hb21 (yl_sindexN un9 (a := p_s) rfl rfl rfl (by first | omega | assumption | (simp only [wI] at *; omega)) (sy rfl rfl hb21 (yl_leq rfl rfl rfl (sd rfl (yl_pick_t rfl rfl hb21 rfl (sd rfl (yM rfl rfl (bcase (decide (((p_s.getD k5 0).toNat : Int) ≤ 122)) (fun hb22 => ?_) (fun hb22 => ?_)))))))))))))
    ·have hb22p := dec_t hb22
     refine sz rfl rfl hb22 (sz rfl rfl hb22 (sz rfl rfl hb22 (sz rfl rfl hb22 (sz rfl rfl hb22 (sq rfl rfl (sq rfl rfl (sq rfl rfl (sq rfl rfl ?_))))))))
     refine sz rfl rfl hb22 (sd rfl (yl_pick_t rfl rfl hb22 rfl (sd rfl (yA rfl rfl (dn (CW.seq (CW.seq (CW.region (sd rfl (yA rfl rfl ?_))))))))))
     refine dn (CW.block (CW.loop (fun m25 L26 w27 => ∃ (k23 : Nat) (x24 : Bool), m25 = p_more.length - k23 ∧ k23 ≤ p_more.length ∧ w11.heap.size ≤ w27.heap.size ∧ lkp L26 0 = some (.string (bs (p_s))) ∧ lkp L26 1 = some (.string (bs (p_more))) ∧ lkp L26 5 = some (.int .i64 ((k5 : Int))) ∧ lkp L26 6 = some (.bool (x24)) ∧ lkp L26 7 = some (.int .i64 ((k23 : Int))) ∧ lkp L26 19 = some (.string (bs (p_s))) ∧ lkp L26 20 = some (.int .i64 ((k5 : Int))) ∧ lkp L26 21 = some (.int .u8 (((p_s.getD k5 0).toNat : Int))) ∧ lkp L26 22 = some (.bool (decide (((p_s.getD k5 0).toNat : Int) ≤ 122))) ∧ lkp L26 25 = some (undef) ∧ lkp L26 26 = some (undef) ∧ lkp L26 27 = some (undef) ∧ lkp L26 28 = some (undef) ∧ lkp L26 29 = some (undef) ∧ lkp L26 30 = some (undef) ∧ lkp L26 31 = some (undef) ∧ lkp L26 32 = some (undef) ∧ lkp L26 33 = some (undef) ∧ lkp L26 34 = some (undef) ∧ Ex w w27 ∧ loopM (B_s_l3Bytes_1 p_s p_more k5) (p_more.length - k23) k23 (x24) = loopM (B_s_l3Bytes_1 p_s p_more k5) (p_more.length - 0) 0 (true)) (p_more.length - 0) ?_ ?_))
     ·exact ⟨0, true, rfl, (by omega), Nat.le_refl _, rfl, rfl, rfl, rfl, rfl, rfl, rfl, rfl, rfl, rfl, rfl, rfl, rfl, rfl, rfl, rfl, rfl, rfl, rfl, hf18, rfl⟩
     ·rintro m28 L29 w30 ⟨k23, x24, rfl, hk31, hsz33, hl34, hl35, hl36, hl37, hl38, hl39, hl40, hl41, hl42, hl43, hl44, hl45, hl46, hl47, hl48, hl49, hl50, hl51, hl52, hf53, hI32⟩
      refine CW.sub (Sub.cons hl34 (Sub.cons hl35 (Sub.cons hl36 (Sub.cons hl37 (Sub.cons hl38 (Sub.cons hl39 (Sub.cons hl40 (Sub.cons hl41 (Sub.cons hl42 (Sub.cons hl43 (Sub.cons hl44 (Sub.cons hl45 (Sub.cons hl46 (Sub.cons hl47 (Sub.cons hl48 (Sub.cons hl49 (Sub.cons hl50 (Sub.cons hl51 (Sub.cons hl52 (Sub.nil _)))))))))))))))))))) ?_
      have hf53z := Ex.size hf53
      have hbg54 : p_more.length ≤ 1073741824 := o2
      rcases Nat.lt_or_ge k23 p_more.length with hlt55 | hlt55
      ·refine CW.seq (CW.seq (CW.region (sd rfl (yM rfl rfl (sd rfl (yM rfl rfl (sd rfl (yl_slen un9 (a := p_more) rfl rfl (sd rfl (yl_lss rfl rfl rfl (dn ?_)))))))))))
       refine CW.cond_t rfl (lt_t hlt55) (CW.skip (tn (CW.seq (CW.block (bcase (x24) (fun hb56 => ?_) (fun hb56 => ?_))))))
       ·refine CW.drawsI 11 (vgetI ([.bool (x24), .bool (x24), undef, undef, undef, undef, undef, undef, undef, .bool (true), .bool (true)].map DetI)) Tryz.follows rfl rfl rfl rfl rfl rfl (vgetI_stable (stD _)) ⟨?_, ?_, ?_, ?_, ?_, ?_, ?_, ?_, ?_, ?_, ?_, trivial⟩ ?_
        ·exact oI rfl fun h => yM rfl (h.old 6 _ rfl rfl) kI
        ·exact oI rfl fun h => yM rfl (h.dt 0 42 rfl rfl rfl) kI
        ·exact oS rfl rfl rfl rfl rfl hb56
        ·exact oS rfl rfl rfl rfl rfl hb56
        ·exact oS rfl rfl rfl rfl rfl hb56
        ·exact oS rfl rfl rfl rfl rfl hb56
        ·exact oS rfl rfl rfl rfl rfl hb56
        ·exact oS rfl rfl rfl rfl rfl hb56
        ·exact oS rfl rfl rfl rfl rfl hb56
        ·exact oI rfl fun h => yl_pick_t rfl (h.dt 1 43 rfl rfl rfl) hb56 rfl kI
        ·exact oI rfl fun h => yA rfl (h.dt 9 51 rfl rfl rfl) kI
        ·intro fl116 fh117 L113 w114 hp115
         have hE118 := hp115.ex
         have hE118z := Ex.size hE118
         refine SeqR.done (bn (tn (CW.sub (Sub.cons (d := 0) (hp115.old 0 _ rfl rfl) (Sub.cons (d := 1) (hp115.old 1 _ rfl rfl) (Sub.cons (d := 5) (hp115.old 5 _ rfl rfl) (Sub.cons (d := 6) (hp115.nt 10 6 rfl rfl rfl) (Sub.cons (d := 7) (hp115.old 7 _ rfl rfl) (Sub.cons (d := 19) (hp115.old 19 _ rfl rfl) (Sub.cons (d := 20) (hp115.old 20 _ rfl rfl) (Sub.cons (d := 21) (hp115.old 21 _ rfl rfl) (Sub.cons (d := 22) (hp115.old 22 _ rfl rfl) (Sub.cons (d := 25) (hp115.old 25 _ rfl rfl) (Sub.cons (d := 26) (hp115.old 26 _ rfl rfl) (Sub.cons (d := 27) (hp115.old 27 _ rfl rfl) (Sub.cons (d := 28) (hp115.old 28 _ rfl rfl) (Sub.cons (d := 29) (hp115.old 29 _ rfl rfl) (Sub.cons (d := 30) (hp115.old 30 _ rfl rfl) (Sub.cons (d := 31) (hp115.old 31 _ rfl rfl) (Sub.cons (d := 32) (hp115.old 32 _ rfl rfl) (Sub.cons (d := 33) (hp115.old 33 _ rfl rfl) (Sub.cons (d := 34) (hp115.old 34 _ rfl rfl) (Sub.cons (d := 44) (hp115.nt 2 44 rfl rfl rfl) (Sub.cons (d := 45) (hp115.nt 3 45 rfl rfl rfl) (Sub.cons (d := 46) (hp115.nt 4 46 rfl rfl rfl) (Sub.cons (d := 47) (hp115.nt 5 47 rfl rfl rfl) (Sub.cons (d := 48) (hp115.nt 6 48 rfl rfl rfl) (Sub.cons (d := 49) (hp115.nt 7 49 rfl rfl rfl) (Sub.cons (d := 50) (hp115.nt 8 50 rfl rfl rfl) (Sub.nil _))))))))))))))))))))))))))) (CW.region (sd rfl (yM rfl rfl (sd rfl (yl_inc rfl rfl rfl (by omega) (sd rfl (yA rfl rfl (SeqR.done ?_)))))))))))
         refine tn ?_
         have hB145 : B_s_l3Bytes_1 p_s p_more k5 k23 (x24) = .cont (true) := by simp only [B_s_l3Bytes_1, hb21, hb22, hb56, cL]
         exact ⟨p_more.length - (k23 + 1), by omega, k23 + 1, true, rfl, hlt55, (by omega), rfl, rfl, rfl, rfl, rfl, rfl, rfl, rfl, rfl, rfl, rfl, rfl, rfl, rfl, rfl, rfl, rfl, rfl, rfl, (Ex.trans hf53 hE118), (loopM.cont hlt55 hB145).symm.trans hI32⟩
       ·refine CW.drawsI 11 (vgetI ([.bool (x24), .bool (x24), .string (bs (p_s)), .int .i64 ((k5 : Int)), .int .u8 (((p_s.getD k5 0).toNat : Int)), .string (bs (p_more)), .int .i64 ((k23 : Int)), .int .u8 (((p_more.getD k23 0).toNat : Int)), .bool (decide (((p_s.getD k5 0).toNat : Int) = ((p_more.getD k23 0).toNat : Int))), .bool (decide (((p_s.getD k5 0).toNat : Int) = ((p_more.getD k23 0).toNat : Int))), .bool (decide (((p_s.getD k5 0).toNat : Int) = ((p_more.getD k23 0).toNat : Int)))].map DetI)) Tryz.follows rfl rfl rfl rfl rfl rfl (vgetI_stable (stD _)) ⟨?_, ?_, ?_, ?_, ?_, ?_, ?_, ?_, ?_, ?_, ?_, trivial⟩ ?_
        ·exact oI rfl fun h => yM rfl (h.old 6 _ rfl rfl) kI
        ·exact oI rfl fun h => yM rfl (h.dt 0 42 rfl rfl rfl) kI
        ·exact oW rfl rfl rfl rfl hb56 fun h => yM rfl (h.old 0 _ rfl rfl) kI
        ·exact oW rfl rfl rfl rfl hb56 fun h => yM rfl (h.old 5 _ rfl rfl) kI
        ·intro L169 w170 hi171
         have hE172 := hi171.ex
         have hE172z := Ex.size hE172
         exact OpR.want rfl rfl (hi171.dt 1 43 rfl rfl rfl) hb56 (Yl.sameI (yl_sindexN un9 (a := p_s) rfl (hi171.dt 2 44 rfl rfl rfl) (hi171.dt 3 45 rfl rfl rfl) (by first | omega | assumption | (simp only [wI] at *; omega)) kI))
        ·exact oW rfl rfl rfl rfl hb56 fun h => yM rfl (h.old 1 _ rfl rfl) kI
        ·exact oW rfl rfl rfl rfl hb56 fun h => yM rfl (h.old 7 _ rfl rfl) kI
        ·intro L188 w189 hi190
         have hE191 := hi190.ex
         have hE191z := Ex.size hE191
         exact OpR.want rfl rfl (hi190.dt 1 43 rfl rfl rfl) hb56 (Yl.sameI (yl_sindexN un9 (a := p_more) rfl (hi190.dt 5 47 rfl rfl rfl) (hi190.dt 6 48 rfl rfl rfl) (by first | omega | assumption | (simp only [wI] at *; omega)) kI))
        ·exact oW rfl rfl rfl rfl hb56 fun h => yl_eql rfl (h.dt 4 46 rfl rfl rfl) (h.dt 7 49 rfl rfl rfl) kI
        ·exact oI rfl fun h => yl_pick_f rfl (h.dt 1 43 rfl rfl rfl) hb56 (h.dt 8 50 rfl rfl rfl) kI
        ·exact oI rfl fun h => yA rfl (h.dt 9 51 rfl rfl rfl) kI
        ·intro fl216 fh217 L213 w214 hp215
         have hE218 := hp215.ex
         have hE218z := Ex.size hE218
         refine SeqR.done (bn (tn (CW.sub (Sub.cons (d := 0) (hp215.old 0 _ rfl rfl) (Sub.cons (d := 1) (hp215.old 1 _ rfl rfl) (Sub.cons (d := 5) (hp215.old 5 _ rfl rfl) (Sub.cons (d := 6) (hp215.nt 10 6 rfl rfl rfl) (Sub.cons (d := 7) (hp215.old 7 _ rfl rfl) (Sub.cons (d := 19) (hp215.old 19 _ rfl rfl) (Sub.cons (d := 20) (hp215.old 20 _ rfl rfl) (Sub.cons (d := 21) (hp215.old 21 _ rfl rfl) (Sub.cons (d := 22) (hp215.old 22 _ rfl rfl) (Sub.cons (d := 25) (hp215.old 25 _ rfl rfl) (Sub.cons (d := 26) (hp215.old 26 _ rfl rfl) (Sub.cons (d := 27) (hp215.old 27 _ rfl rfl) (Sub.cons (d := 28) (hp215.old 28 _ rfl rfl) (Sub.cons (d := 29) (hp215.old 29 _ rfl rfl) (Sub.cons (d := 30) (hp215.old 30 _ rfl rfl) (Sub.cons (d := 31) (hp215.old 31 _ rfl rfl) (Sub.cons (d := 32) (hp215.old 32 _ rfl rfl) (Sub.cons (d := 33) (hp215.old 33 _ rfl rfl) (Sub.cons (d := 34) (hp215.old 34 _ rfl rfl) (Sub.cons (d := 44) (hp215.nt 2 44 rfl rfl rfl) (Sub.cons (d := 45) (hp215.nt 3 45 rfl rfl rfl) (Sub.cons (d := 46) (hp215.nt 4 46 rfl rfl rfl) (Sub.cons (d := 47) (hp215.nt 5 47 rfl rfl rfl) (Sub.cons (d := 48) (hp215.nt 6 48 rfl rfl rfl) (Sub.cons (d := 49) (hp215.nt 7 49 rfl rfl rfl) (Sub.cons (d := 50) (hp215.nt 8 50 rfl rfl rfl) (Sub.nil _))))))))))))))))))))))))))) (CW.region (sd rfl (yM rfl rfl (sd rfl (yl_inc rfl rfl rfl (by omega) (sd rfl (yA rfl rfl (SeqR.done ?_)))))))))))
         refine tn ?_
         have hB245 : B_s_l3Bytes_1 p_s p_more k5 k23 (x24) = .cont (decide (((p_s.getD k5 0).toNat : Int) = ((p_more.getD k23 0).toNat : Int))) := by simp only [B_s_l3Bytes_1, hb21, hb22, hb56, cL]
         exact ⟨p_more.length - (k23 + 1), by omega, k23 + 1, decide (((p_s.getD k5 0).toNat : Int) = ((p_more.getD k23 0).toNat : Int)), rfl, hlt55, (by omega), rfl, rfl, rfl, rfl, rfl, rfl, rfl, rfl, rfl, rfl, rfl, rfl, rfl, rfl, rfl, rfl, rfl, rfl, rfl, (Ex.trans hf53 hE218), (loopM.cont hlt55 hB245).symm.trans hI32⟩
      ·refine CW.seq (CW.seq (CW.region (sd rfl (yM rfl rfl (sd rfl (yM rfl rfl (sd rfl (yl_slen un9 (a := p_more) rfl rfl (sd rfl (yl_lss rfl rfl rfl (dn ?_)))))))))))
       refine CW.cond_f rfl (lt_f hlt55) (CW.exit (tx (tx ?_)))
       have hL247 : loopM (B_s_l3Bytes_1 p_s p_more k5) (p_more.length - 0) 0 (true) = .done (x24) := hI32.symm.trans (loopM.stop hlt55)
       refine bx (tn (CW.seq (CW.region (sd rfl (yM rfl rfl (sd rfl (yl_not rfl rfl (dn (bcase (x24) (fun hb248 => ?_) (fun hb248 => ?_))))))))))
       ·refine CW.cond_f rfl (not_t hb248) (CW.skip (bn (tn (CW.region (sd rfl (yM rfl rfl (sd rfl (yl_inc rfl rfl rfl (by omega) (sd rfl (yA rfl rfl (SeqR.done ?_)))))))))))
        refine tn ?_
        have hB249 : B_s_l3Bytes_0 p_s p_more k5 () = .cont () := by simp only [B_s_l3Bytes_0, hb21, hb22, hb248, hL247, cL]
        exact ⟨p_s.length - (k5 + 1), by omega, k5 + 1, rfl, hlt20, (by omega), rfl, rfl, rfl, hf53, (loopM.cont hlt20 hB249).symm.trans hI13⟩
       ·refine CW.cond_t rfl (not_f hb248) (CW.seq (CW.region (sd rfl (yA rfl rfl (dn (CW.ret (br (tr ?_))))))))
        refine tr ?_
        have hB251 : B_s_l3Bytes_0 p_s p_more k5 () = .ret false := by simp only [B_s_l3Bytes_0, hb21, hb22, hb248, hL247, cL]
        have hL250 : loopM (B_s_l3Bytes_0 p_s p_more) (p_s.length - 0) 0 () = .ret false := hI13.symm.trans (loopM.ret hlt20 hB251)
        refine br (tr (rr rfl (.cons rfl .nil) ?_))
        have hM252 : (s_l3Bytes p_s p_more) = (false) := by simp only [s_l3Bytes, hb21, hb22, hb248, hL247, hL250, cL]
        rw [hM252]
        exact ⟨rfl, hf53⟩
    ·have hb22p := dec_f hb22
     refine sy rfl rfl hb22 (yM rfl rfl (sy rfl rfl hb22 (yM rfl rfl (sy rfl rfl hb22 (yl_sindexN un9 (a := p_s) rfl rfl rfl (by first | omega | assumption | (simp only [wI] at *; omega)) (sy rfl rfl hb22 (yl_geq rfl rfl rfl (sy rfl rfl hb22 (yM rfl rfl (bcase (decide (48 ≤ ((p_s.getD k5 0).toNat : Int))) (fun hb253 => ?_) (fun hb253 => ?_)))))))))))
     ·have hb253p := dec_t hb253
      refine sy rfl rfl hb253 (yM rfl rfl (sy rfl rfl hb253 (yM rfl rfl (sy rfl rfl hb253 (yl_sindexN un9 (a := p_s) rfl rfl rfl (by first | omega | assumption | (simp only [wI] at *; omega)) (sy rfl rfl hb253 (yl_leq rfl rfl rfl (sy rfl rfl hb22 (yl_pick_t rfl rfl hb253 rfl (sd rfl (yl_pick_f rfl rfl hb22 rfl (sd rfl (yA rfl rfl (dn ?_))))))))))))))
      refine CW.seq (CW.seq (CW.region (sd rfl (yA rfl rfl (dn (CW.block (CW.loop (fun m256 L257 w258 => ∃ (k254 : Nat) (x255 : Bool), m256 = p_more.length - k254 ∧ k254 ≤ p_more.length ∧ w11.heap.size ≤ w258.heap.size ∧ lkp L257 0 = some (.string (bs (p_s))) ∧ lkp L257 1 = some (.string (bs (p_more))) ∧ lkp L257 5 = some (.int .i64 ((k5 : Int))) ∧ lkp L257 6 = some (.bool (x255)) ∧ lkp L257 7 = some (.int .i64 ((k254 : Int))) ∧ lkp L257 19 = some (.string (bs (p_s))) ∧ lkp L257 20 = some (.int .i64 ((k5 : Int))) ∧ lkp L257 21 = some (.int .u8 (((p_s.getD k5 0).toNat : Int))) ∧ lkp L257 22 = some (.bool (decide (((p_s.getD k5 0).toNat : Int) ≤ 122))) ∧ lkp L257 25 = some (.string (bs (p_s))) ∧ lkp L257 26 = some (.int .i64 ((k5 : Int))) ∧ lkp L257 27 = some (.int .u8 (((p_s.getD k5 0).toNat : Int))) ∧ lkp L257 28 = some (.bool (decide (48 ≤ ((p_s.getD k5 0).toNat : Int)))) ∧ lkp L257 29 = some (.bool (decide (48 ≤ ((p_s.getD k5 0).toNat : Int)))) ∧ lkp L257 30 = some (.string (bs (p_s))) ∧ lkp L257 31 = some (.int .i64 ((k5 : Int))) ∧ lkp L257 32 = some (.int .u8 (((p_s.getD k5 0).toNat : Int))) ∧ lkp L257 33 = some (.bool (decide (((p_s.getD k5 0).toNat : Int) ≤ 57))) ∧ lkp L257 34 = some (.bool (decide (((p_s.getD k5 0).toNat : Int) ≤ 57))) ∧ Ex w w258 ∧ loopM (B_s_l3Bytes_1 p_s p_more k5) (p_more.length - k254) k254 (x255) = loopM (B_s_l3Bytes_1 p_s p_more k5) (p_more.length - 0) 0 (decide (((p_s.getD k5 0).toNat : Int) ≤ 57))) (p_more.length - 0) ?_ ?_)))))))
      ·exact ⟨0, decide (((p_s.getD k5 0).toNat : Int) ≤ 57), rfl, (by omega), Nat.le_refl _, rfl, rfl, rfl, rfl, rfl, rfl, rfl, rfl, rfl, rfl, rfl, rfl, rfl, rfl, rfl, rfl, rfl, rfl, rfl, hf18, rfl⟩
      ·rintro m259 L260 w261 ⟨k254, x255, rfl, hk262, hsz264, hl265, hl266, hl267, hl268, hl269, hl270, hl271, hl272, hl273, hl274, hl275, hl276, hl277, hl278, hl279, hl280, hl281, hl282, hl283, hf284, hI263⟩
       refine CW.sub (Sub.cons hl265 (Sub.cons hl266 (Sub.cons hl267 (Sub.cons hl268 (Sub.cons hl269 (Sub.cons hl270 (Sub.cons hl271 (Sub.cons hl272 (Sub.cons hl273 (Sub.cons hl274 (Sub.cons hl275 (Sub.cons hl276 (Sub.cons hl277 (Sub.cons hl278 (Sub.cons hl279 (Sub.cons hl280 (Sub.cons hl281 (Sub.cons hl282 (Sub.cons hl283 (Sub.nil _)))))))))))))))))))) ?_
       have hf284z := Ex.size hf284
       have hbg285 : p_more.length ≤ 1073741824 := o2
       rcases Nat.lt_or_ge k254 p_more.length with hlt286 | hlt286
       ·refine CW.seq (CW.seq (CW.region (sd rfl (yM rfl rfl (sd rfl (yM rfl rfl (sd rfl (yl_slen un9 (a := p_more) rfl rfl (sd rfl (yl_lss rfl rfl rfl (dn ?_)))))))))))
        refine CW.cond_t rfl (lt_t hlt286) (CW.skip (tn (CW.seq (CW.block (bcase (x255) (fun hb287 => ?_) (fun hb287 => ?_))))))
        ·refine CW.drawsI 11 (vgetI ([.bool (x255), .bool (x255), undef, undef, undef, undef, undef, undef, undef, .bool (true), .bool (true)].map DetI)) Tryz.follows rfl rfl rfl rfl rfl rfl (vgetI_stable (stD _)) ⟨?_, ?_, ?_, ?_, ?_, ?_, ?_, ?_, ?_, ?_, ?_, trivial⟩ ?_
         ·exact oI rfl fun h => yM rfl (h.old 6 _ rfl rfl) kI
         ·exact oI rfl fun h => yM rfl (h.dt 0 42 rfl rfl rfl) kI
         ·exact oS rfl rfl rfl rfl rfl hb287
         ·exact oS rfl rfl rfl rfl rfl hb287
         ·exact oS rfl rfl rfl rfl rfl hb287
         ·exact oS rfl rfl rfl rfl rfl hb287
         ·exact oS rfl rfl rfl rfl rfl hb287
         ·exact oS rfl rfl rfl rfl rfl hb287
         ·exact oS rfl rfl rfl rfl rfl hb287
         ·exact oI rfl fun h => yl_pick_t rfl (h.dt 1 43 rfl rfl rfl) hb287 rfl kI
         ·exact oI rfl fun h => yA rfl (h.dt 9 51 rfl rfl rfl) kI
         ·intro fl347 fh348 L344 w345 hp346
          have hE349 := hp346.ex
          have hE349z := Ex.size hE349
          refine SeqR.done (bn (tn (CW.sub (Sub.cons (d := 0) (hp346.old 0 _ rfl rfl) (Sub.cons (d := 1) (hp346.old 1 _ rfl rfl) (Sub.cons (d := 5) (hp346.old 5 _ rfl rfl) (Sub.cons (d := 6) (hp346.nt 10 6 rfl rfl rfl) (Sub.cons (d := 7) (hp346.old 7 _ rfl rfl) (Sub.cons (d := 19) (hp346.old 19 _ rfl rfl) (Sub.cons (d := 20) (hp346.old 20 _ rfl rfl) (Sub.cons (d := 21) (hp346.old 21 _ rfl rfl) (Sub.cons (d := 22) (hp346.old 22 _ rfl rfl) (Sub.cons (d := 25) (hp346.old 25 _ rfl rfl) (Sub.cons (d := 26) (hp346.old 26 _ rfl rfl) (Sub.cons (d := 27) (hp346.old 27 _ rfl rfl) (Sub.cons (d := 28) (hp346.old 28 _ rfl rfl) (Sub.cons (d := 29) (hp346.old 29 _ rfl rfl) (Sub.cons (d := 30) (hp346.old 30 _ rfl rfl) (Sub.cons (d := 31) (hp346.old 31 _ rfl rfl) (Sub.cons (d := 32) (hp346.old 32 _ rfl rfl) (Sub.cons (d := 33) (hp346.old 33 _ rfl rfl) (Sub.cons (d := 34) (hp346.old 34 _ rfl rfl) (Sub.cons (d := 44) (hp346.nt 2 44 rfl rfl rfl) (Sub.cons (d := 45) (hp346.nt 3 45 rfl rfl rfl) (Sub.cons (d := 46) (hp346.nt 4 46 rfl rfl rfl) (Sub.cons (d := 47) (hp346.nt 5 47 rfl rfl rfl) (Sub.cons (d := 48) (hp346.nt 6 48 rfl rfl rfl) (Sub.cons (d := 49) (hp346.nt 7 49 rfl rfl rfl) (Sub.cons (d := 50) (hp346.nt 8 50 rfl rfl rfl) (Sub.nil _))))))))))))))))))))))))))) (CW.region (sd rfl (yM rfl rfl (sd rfl (yl_inc rfl rfl rfl (by omega) (sd rfl (yA rfl rfl (SeqR.done ?_)))))))))))
          refine tn ?_
          have hB376 : B_s_l3Bytes_1 p_s p_more k5 k254 (x255) = .cont (true) := by simp only [B_s_l3Bytes_1, hb21, hb22, hb253, hb287, cL]
          exact ⟨p_more.length - (k254 + 1), by omega, k254 + 1, true, rfl, hlt286, (by omega), rfl, rfl, rfl, rfl, rfl, rfl, rfl, rfl, rfl, rfl, rfl, rfl, rfl, rfl, rfl, rfl, rfl, rfl, rfl, (Ex.trans hf284 hE349), (loopM.cont hlt286 hB376).symm.trans hI263⟩
        ·refine CW.drawsI 11 (vgetI ([.bool (x255), .bool (x255), .string (bs (p_s)), .int .i64 ((k5 : Int)), .int .u8 (((p_s.getD k5 0).toNat : Int)), .string (bs (p_more)), .int .i64 ((k254 : Int)), .int .u8 (((p_more.getD k254 0).toNat : Int)), .bool (decide (((p_s.getD k5 0).toNat : Int) = ((p_more.getD k254 0).toNat : Int))), .bool (decide (((p_s.getD k5 0).toNat : Int) = ((p_more.getD k254 0).toNat : Int))), .bool (decide (((p_s.getD k5 0).toNat : Int) = ((p_more.getD k254 0).toNat : Int)))].map DetI)) Tryz.follows rfl rfl rfl rfl rfl rfl (vgetI_stable (stD _)) ⟨?_, ?_, ?_, ?_, ?_, ?_, ?_, ?_, ?_, ?_, ?_, trivial⟩ ?_
         ·exact oI rfl fun h => yM rfl (h.old 6 _ rfl rfl) kI
         ·exact oI rfl fun h => yM rfl (h.dt 0 42 rfl rfl rfl) kI
         ·exact oW rfl rfl rfl rfl hb287 fun h => yM rfl (h.old 0 _ rfl rfl) kI
         ·exact oW rfl rfl rfl rfl hb287 fun h => yM rfl (h.old 5 _ rfl rfl) kI
         ·intro L400 w401 hi402
          have hE403 := hi402.ex
          have hE403z := Ex.size hE403
          exact OpR.want rfl rfl (hi402.dt 1 43 rfl rfl rfl) hb287 (Yl.sameI (yl_sindexN un9 (a := p_s) rfl (hi402.dt 2 44 rfl rfl rfl) (hi402.dt 3 45 rfl rfl rfl) (by first | omega | assumption | (simp only [wI] at *; omega)) kI))
         ·exact oW rfl rfl rfl rfl hb287 fun h => yM rfl (h.old 1 _ rfl rfl) kI
         ·exact oW rfl rfl rfl rfl hb287 fun h => yM rfl (h.old 7 _ rfl rfl) kI
         ·intro L419 w420 hi421
          have hE422 := hi421.ex
          have hE422z := Ex.size hE422
          exact OpR.want rfl rfl (hi421.dt 1 43 rfl rfl rfl) hb287 (Yl.sameI (yl_sindexN un9 (a := p_more) rfl (hi421.dt 5 47 rfl rfl rfl) (hi421.dt 6 48 rfl rfl rfl) (by first | omega | assumption | (simp only [wI] at *; omega)) kI))
         ·exact oW rfl rfl rfl rfl hb287 fun h => yl_eql rfl (h.dt 4 46 rfl rfl rfl) (h.dt 7 49 rfl rfl rfl) kI
         ·exact oI rfl fun h => yl_pick_f rfl (h.dt 1 43 rfl rfl rfl) hb287 (h.dt 8 50 rfl rfl rfl) kI
         ·exact oI rfl fun h => yA rfl (h.dt 9 51 rfl rfl rfl) kI
         ·intro fl447 fh448 L444 w445 hp446
          have hE449 := hp446.ex
          have hE449z := Ex.size hE449
          refine SeqR.done (bn (tn (CW.sub (Sub.cons (d := 0) (hp446.old 0 _ rfl rfl) (Sub.cons (d := 1) (hp446.old 1 _ rfl rfl) (Sub.cons (d := 5) (hp446.old 5 _ rfl rfl) (Sub.cons (d := 6) (hp446.nt 10 6 rfl rfl rfl) (Sub.cons (d := 7) (hp446.old 7 _ rfl rfl) (Sub.cons (d := 19) (hp446.old 19 _ rfl rfl) (Sub.cons (d := 20) (hp446.old 20 _ rfl rfl) (Sub.cons (d := 21) (hp446.old 21 _ rfl rfl) (Sub.cons (d := 22) (hp446.old 22 _ rfl rfl) (Sub.cons (d := 25) (hp446.old 25 _ rfl rfl) (Sub.cons (d := 26) (hp446.old 26 _ rfl rfl) (Sub.cons (d := 27) (hp446.old 27 _ rfl rfl) (Sub.cons (d := 28) (hp446.old 28 _ rfl rfl) (Sub.cons (d := 29) (hp446.old 29 _ rfl rfl) (Sub.cons (d := 30) (hp446.old 30 _ rfl rfl) (Sub.cons (d := 31) (hp446.old 31 _ rfl rfl) (Sub.cons (d := 32) (hp446.old 32 _ rfl rfl) (Sub.cons (d := 33) (hp446.old 33 _ rfl rfl) (Sub.cons (d := 34) (hp446.old 34 _ rfl rfl) (Sub.cons (d := 44) (hp446.nt 2 44 rfl rfl rfl) (Sub.cons (d := 45) (hp446.nt 3 45 rfl rfl rfl) (Sub.cons (d := 46) (hp446.nt 4 46 rfl rfl rfl) (Sub.cons (d := 47) (hp446.nt 5 47 rfl rfl rfl) (Sub.cons (d := 48) (hp446.nt 6 48 rfl rfl rfl) (Sub.cons (d := 49) (hp446.nt 7 49 rfl rfl rfl) (Sub.cons (d := 50) (hp446.nt 8 50 rfl rfl rfl) (Sub.nil _))))))))))))))))))))))))))) (CW.region (sd rfl (yM rfl rfl (sd rfl (yl_inc rfl rfl rfl (by omega) (sd rfl (yA rfl rfl (SeqR.done ?_)))))))))))
          refine tn ?_
          have hB476 : B_s_l3Bytes_1 p_s p_more k5 k254 (x255) = .cont (decide (((p_s.getD k5 0).toNat : Int) = ((p_more.getD k254 0).toNat : Int))) := by simp only [B_s_l3Bytes_1, hb21, hb22, hb253, hb287, cL]
          exact ⟨p_more.length - (k254 + 1), by omega, k254 + 1, decide (((p_s.getD k5 0).toNat : Int) = ((p_more.getD k254 0).toNat : Int)), rfl, hlt286, (by omega), rfl, rfl, rfl, rfl, rfl, rfl, rfl, rfl, rfl, rfl, rfl, rfl, rfl, rfl, rfl, rfl, rfl, rfl, rfl, (Ex.trans hf284 hE449), (loopM.cont hlt286 hB476).symm.trans hI263⟩
       ·refine CW.seq (CW.seq (CW.region (sd rfl (yM rfl rfl (sd rfl (yM rfl rfl (sd rfl (yl_slen un9 (a := p_more) rfl rfl (sd rfl (yl_lss rfl rfl rfl (dn ?_)))))))))))
        refine CW.cond_f rfl (lt_f hlt286) (CW.exit (tx (tx ?_)))
        have hL478 : loopM (B_s_l3Bytes_1 p_s p_more k5) (p_more.length - 0) 0 (decide (((p_s.getD k5 0).toNat : Int) ≤ 57)) = .done (x255) := hI263.symm.trans (loopM.stop hlt286)
        refine bx (tn (CW.seq (CW.region (sd rfl (yM rfl rfl (sd rfl (yl_not rfl rfl (dn (bcase (x255) (fun hb479 => ?_) (fun hb479 => ?_))))))))))
        ·refine CW.cond_f rfl (not_t hb479) (CW.skip (bn (tn (CW.region (sd rfl (yM rfl rfl (sd rfl (yl_inc rfl rfl rfl (by omega) (sd rfl (yA rfl rfl (SeqR.done ?_)))))))))))
         refine tn ?_
         have hB480 : B_s_l3Bytes_0 p_s p_more k5 () = .cont () := by simp only [B_s_l3Bytes_0, hb21, hb22, hb253, hb479, hL478, cL]
         exact ⟨p_s.length - (k5 + 1), by omega, k5 + 1, rfl, hlt20, (by omega), rfl, rfl, rfl, hf284, (loopM.cont hlt20 hB480).symm.trans hI13⟩
        ·refine CW.cond_t rfl (not_f hb479) (CW.seq (CW.region (sd rfl (yA rfl rfl (dn (CW.ret (br (tr ?_))))))))
         refine tr ?_
         have hB482 : B_s_l3Bytes_0 p_s p_more k5 () = .ret false := by simp only [B_s_l3Bytes_0, hb21, hb22, hb253, hb479, hL478, cL]
         have hL481 : loopM (B_s_l3Bytes_0 p_s p_more) (p_s.length - 0) 0 () = .ret false := hI13.symm.trans (loopM.ret hlt20 hB482)
         refine br (tr (rr rfl (.cons rfl .nil) ?_))
         have hM483 : (s_l3Bytes p_s p_more) = (false) := by simp only [s_l3Bytes, hb21, hb22, hb253, hb479, hL478, hL481, cL]
         rw [hM483]
         exact ⟨rfl, hf284⟩
     ·have hb253p := dec_f hb253
      refine sz rfl rfl hb253 (sz rfl rfl hb253 (sz rfl rfl hb253 (sz rfl rfl hb253 (sy rfl rfl hb22 (yl_pick_f rfl rfl hb253 rfl (sd rfl (yl_pick_f rfl rfl hb22 rfl (sd rfl (yA rfl rfl (dn ?_))))))))))
      refine CW.seq (CW.seq (CW.region (sd rfl (yA rfl rfl (dn (CW.block (CW.loop (fun m486 L487 w488 => ∃ (k484 : Nat) (x485 : Bool), m486 = p_more.length - k484 ∧ k484 ≤ p_more.length ∧ w11.heap.size ≤ w488.heap.size ∧ lkp L487 0 = some (.string (bs (p_s))) ∧ lkp L487 1 = some (.string (bs (p_more))) ∧ lkp L487 5 = some (.int .i64 ((k5 : Int))) ∧ lkp L487 6 = some (.bool (x485)) ∧ lkp L487 7 = some (.int .i64 ((k484 : Int))) ∧ lkp L487 19 = some (.string (bs (p_s))) ∧ lkp L487 20 = some (.int .i64 ((k5 : Int))) ∧ lkp L487 21 = some (.int .u8 (((p_s.getD k5 0).toNat : Int))) ∧ lkp L487 22 = some (.bool (decide (((p_s.getD k5 0).toNat : Int) ≤ 122))) ∧ lkp L487 25 = some (.string (bs (p_s))) ∧ lkp L487 26 = some (.int .i64 ((k5 : Int))) ∧ lkp L487 27 = some (.int .u8 (((p_s.getD k5 0).toNat : Int))) ∧ lkp L487 28 = some (.bool (decide (48 ≤ ((p_s.getD k5 0).toNat : Int)))) ∧ lkp L487 29 = some (.bool (decide (48 ≤ ((p_s.getD k5 0).toNat : Int)))) ∧ lkp L487 30 = some (undef) ∧ lkp L487 31 = some (undef) ∧ lkp L487 32 = some (undef) ∧ lkp L487 33 = some (undef) ∧ lkp L487 34 = some (.bool (false)) ∧ Ex w w488 ∧ loopM (B_s_l3Bytes_1 p_s p_more k5) (p_more.length - k484) k484 (x485) = loopM (B_s_l3Bytes_1 p_s p_more k5) (p_more.length - 0) 0 (false)) (p_more.length - 0) ?_ ?_)))))))
      ·exact ⟨0, false, rfl, (by omega), Nat.le_refl _, rfl, rfl, rfl, rfl, rfl, rfl, rfl, rfl, rfl, rfl, rfl, rfl, rfl, rfl, rfl, rfl, rfl, rfl, rfl, hf18, rfl⟩
      ·rintro m489 L490 w491 ⟨k484, x485, rfl, hk492, hsz494, hl495, hl496, hl497, hl498, hl499, hl500, hl501, hl502, hl503, hl504, hl505, hl506, hl507, hl508, hl509, hl510, hl511, hl512, hl513, hf514, hI493⟩
       refine CW.sub (Sub.cons hl495 (Sub.cons hl496 (Sub.cons hl497 (Sub.cons hl498 (Sub.cons hl499 (Sub.cons hl500 (Sub.cons hl501 (Sub.cons hl502 (Sub.cons hl503 (Sub.cons hl504 (Sub.cons hl505 (Sub.cons hl506 (Sub.cons hl507 (Sub.cons hl508 (Sub.cons hl509 (Sub.cons hl510 (Sub.cons hl511 (Sub.cons hl512 (Sub.cons hl513 (Sub.nil _)))))))))))))))))))) ?_
       have hf514z := Ex.size hf514
       have hbg515 : p_more.length ≤ 1073741824 := o2
       rcases Nat.lt_or_ge k484 p_more.length with hlt516 | hlt516
       ·refine CW.seq (CW.seq (CW.region (sd rfl (yM rfl rfl (sd rfl (yM rfl rfl (sd rfl (yl_slen un9 (a := p_more) rfl rfl (sd rfl (yl_lss rfl rfl rfl (dn ?_)))))))))))
        refine CW.cond_t rfl (lt_t hlt516) (CW.skip (tn (CW.seq (CW.block (bcase (x485) (fun hb517 => ?_) (fun hb517 => ?_))))))
        ·refine CW.drawsI 11 (vgetI ([.bool (x485), .bool (x485), undef, undef, undef, undef, undef, undef, undef, .bool (true), .bool (true)].map DetI)) Tryz.follows rfl rfl rfl rfl rfl rfl (vgetI_stable (stD _)) ⟨?_, ?_, ?_, ?_, ?_, ?_, ?_, ?_, ?_, ?_, ?_, trivial⟩ ?_
         ·exact oI rfl fun h => yM rfl (h.old 6 _ rfl rfl) kI
         ·exact oI rfl fun h => yM rfl (h.dt 0 42 rfl rfl rfl) kI
         ·exact oS rfl rfl rfl rfl rfl hb517
         ·exact oS rfl rfl rfl rfl rfl hb517
         ·exact oS rfl rfl rfl rfl rfl hb517
         ·exact oS rfl rfl rfl rfl rfl hb517
         ·exact oS rfl rfl rfl rfl rfl hb517
         ·exact oS rfl rfl rfl rfl rfl hb517
         ·exact oS rfl rfl rfl rfl rfl hb517
         ·exact oI rfl fun h => yl_pick_t rfl (h.dt 1 43 rfl rfl rfl) hb517 rfl kI
         ·exact oI rfl fun h => yA rfl (h.dt 9 51 rfl rfl rfl) kI
         ·intro fl577 fh578 L574 w575 hp576
          have hE579 := hp576.ex
          have hE579z := Ex.size hE579
          refine SeqR.done (bn (tn (CW.sub (Sub.cons (d := 0) (hp576.old 0 _ rfl rfl) (Sub.cons (d := 1) (hp576.old 1 _ rfl rfl) (Sub.cons (d := 5) (hp576.old 5 _ rfl rfl) (Sub.cons (d := 6) (hp576.nt 10 6 rfl rfl rfl) (Sub.cons (d := 7) (hp576.old 7 _ rfl rfl) (Sub.cons (d := 19) (hp576.old 19 _ rfl rfl) (Sub.cons (d := 20) (hp576.old 20 _ rfl rfl) (Sub.cons (d := 21) (hp576.old 21 _ rfl rfl) (Sub.cons (d := 22) (hp576.old 22 _ rfl rfl) (Sub.cons (d := 25) (hp576.old 25 _ rfl rfl) (Sub.cons (d := 26) (hp576.old 26 _ rfl rfl) (Sub.cons (d := 27) (hp576.old 27 _ rfl rfl) (Sub.cons (d := 28) (hp576.old 28 _ rfl rfl) (Sub.cons (d := 29) (hp576.old 29 _ rfl rfl) (Sub.cons (d := 30) (hp576.old 30 _ rfl rfl) (Sub.cons (d := 31) (hp576.old 31 _ rfl rfl) (Sub.cons (d := 32) (hp576.old 32 _ rfl rfl) (Sub.cons (d := 33) (hp576.old 33 _ rfl rfl) (Sub.cons (d := 34) (hp576.old 34 _ rfl rfl) (Sub.cons (d := 44) (hp576.nt 2 44 rfl rfl rfl) (Sub.cons (d := 45) (hp576.nt 3 45 rfl rfl rfl) (Sub.cons (d := 46) (hp576.nt 4 46 rfl rfl rfl) (Sub.cons (d := 47) (hp576.nt 5 47 rfl rfl rfl) (Sub.cons (d := 48) (hp576.nt 6 48 rfl rfl rfl) (Sub.cons (d := 49) (hp576.nt 7 49 rfl rfl rfl) (Sub.cons (d := 50) (hp576.nt 8 50 rfl rfl rfl) (Sub.nil _))))))))))))))))))))))))))) (CW.region (sd rfl (yM rfl rfl (sd rfl (yl_inc rfl rfl rfl (by omega) (sd rfl (yA rfl rfl (SeqR.done ?_)))))))))))
          refine tn ?_
          have hB606 : B_s_l3Bytes_1 p_s p_more k5 k484 (x485) = .cont (true) := by simp only [B_s_l3Bytes_1, hb21, hb22, hb253, hb517, cL]
          exact ⟨p_more.length - (k484 + 1), by omega, k484 + 1, true, rfl, hlt516, (by omega), rfl, rfl, rfl, rfl, rfl, rfl, rfl, rfl, rfl, rfl, rfl, rfl, rfl, rfl, rfl, rfl, rfl, rfl, rfl, (Ex.trans hf514 hE579), (loopM.cont hlt516 hB606).symm.trans hI493⟩
        ·refine CW.drawsI 11 (vgetI ([.bool (x485), .bool (x485), .string (bs (p_s)), .int .i64 ((k5 : Int)), .int .u8 (((p_s.getD k5 0).toNat : Int)), .string (bs (p_more)), .int .i64 ((k484 : Int)), .int .u8 (((p_more.getD k484 0).toNat : Int)), .bool (decide (((p_s.getD k5 0).toNat : Int) = ((p_more.getD k484 0).toNat : Int))), .bool (decide (((p_s.getD k5 0).toNat : Int) = ((p_more.getD k484 0).toNat : Int))), .bool (decide (((p_s.getD k5 0).toNat : Int) = ((p_more.getD k484 0).toNat : Int)))].map DetI)) Tryz.follows rfl rfl rfl rfl rfl rfl (vgetI_stable (stD _)) ⟨?_, ?_, ?_, ?_, ?_, ?_, ?_, ?_, ?_, ?_, ?_, trivial⟩ ?_
         ·exact oI rfl fun h => yM rfl (h.old 6 _ rfl rfl) kI
         ·exact oI rfl fun h => yM rfl (h.dt 0 42 rfl rfl rfl) kI
         ·exact oW rfl rfl rfl rfl hb517 fun h => yM rfl (h.old 0 _ rfl rfl) kI
         ·exact oW rfl rfl rfl rfl hb517 fun h => yM rfl (h.old 5 _ rfl rfl) kI
         ·intro L630 w631 hi632
          have hE633 := hi632.ex
          have hE633z := Ex.size hE633
          exact OpR.want rfl rfl (hi632.dt 1 43 rfl rfl rfl) hb517 (Yl.sameI (yl_sindexN un9 (a := p_s) rfl (hi632.dt 2 44 rfl rfl rfl) (hi632.dt 3 45 rfl rfl rfl) (by first | omega | assumption | (simp only [wI] at *; omega)) kI))
         ·exact oW rfl rfl rfl rfl hb517 fun h => yM rfl (h.old 1 _ rfl rfl) kI
         ·exact oW rfl rfl rfl rfl hb517 fun h => yM rfl (h.old 7 _ rfl rfl) kI
         ·intro L649 w650 hi651
          have hE652 := hi651.ex
          have hE652z := Ex.size hE652
          exact OpR.want rfl rfl (hi651.dt 1 43 rfl rfl rfl) hb517 (Yl.sameI (yl_sindexN un9 (a := p_more) rfl (hi651.dt 5 47 rfl rfl rfl) (hi651.dt 6 48 rfl rfl rfl) (by first | omega | assumption | (simp only [wI] at *; omega)) kI))
         ·exact oW rfl rfl rfl rfl hb517 fun h => yl_eql rfl (h.dt 4 46 rfl rfl rfl) (h.dt 7 49 rfl rfl rfl) kI
         ·exact oI rfl fun h => yl_pick_f rfl (h.dt 1 43 rfl rfl rfl) hb517 (h.dt 8 50 rfl rfl rfl) kI
         ·exact oI rfl fun h => yA rfl (h.dt 9 51 rfl rfl rfl) kI
         ·intro fl677 fh678 L674 w675 hp676
          have hE679 := hp676.ex
          have hE679z := Ex.size hE679
          refine SeqR.done (bn (tn (CW.sub (Sub.cons (d := 0) (hp676.old 0 _ rfl rfl) (Sub.cons (d := 1) (hp676.old 1 _ rfl rfl) (Sub.cons (d := 5) (hp676.old 5 _ rfl rfl) (Sub.cons (d := 6) (hp676.nt 10 6 rfl rfl rfl) (Sub.cons (d := 7) (hp676.old 7 _ rfl rfl) (Sub.cons (d := 19) (hp676.old 19 _ rfl rfl) (Sub.cons (d := 20) (hp676.old 20 _ rfl rfl) (Sub.cons (d := 21) (hp676.old 21 _ rfl rfl) (Sub.cons (d := 22) (hp676.old 22 _ rfl rfl) (Sub.cons (d := 25) (hp676.old 25 _ rfl rfl) (Sub.cons (d := 26) (hp676.old 26 _ rfl rfl) (Sub.cons (d := 27) (hp676.old 27 _ rfl rfl) (Sub.cons (d := 28) (hp676.old 28 _ rfl rfl) (Sub.cons (d := 29) (hp676.old 29 _ rfl rfl) (Sub.cons (d := 30) (hp676.old 30 _ rfl rfl) (Sub.cons (d := 31) (hp676.old 31 _ rfl rfl) (Sub.cons (d := 32) (hp676.old 32 _ rfl rfl) (Sub.cons (d := 33) (hp676.old 33 _ rfl rfl) (Sub.cons (d := 34) (hp676.old 34 _ rfl rfl) (Sub.cons (d := 44) (hp676.nt 2 44 rfl rfl rfl) (Sub.cons (d := 45) (hp676.nt 3 45 rfl rfl rfl) (Sub.cons (d := 46) (hp676.nt 4 46 rfl rfl rfl) (Sub.cons (d := 47) (hp676.nt 5 47 rfl rfl rfl) (Sub.cons (d := 48) (hp676.nt 6 48 rfl rfl rfl) (Sub.cons (d := 49) (hp676.nt 7 49 rfl rfl rfl) (Sub.cons (d := 50) (hp676.nt 8 50 rfl rfl rfl) (Sub.nil _))))))))))))))))))))))))))) (CW.region (sd rfl (yM rfl rfl (sd rfl (yl_inc rfl rfl rfl (by omega) (sd rfl (yA rfl rfl (SeqR.done ?_)))))))))))
          refine tn ?_
          have hB706 : B_s_l3Bytes_1 p_s p_more k5 k484 (x485) = .cont (decide (((p_s.getD k5 0).toNat : Int) = ((p_more.getD k484 0).toNat : Int))) := by simp only [B_s_l3Bytes_1, hb21, hb22, hb253, hb517, cL]
          exact ⟨p_more.length - (k484 + 1), by omega, k484 + 1, decide (((p_s.getD k5 0).toNat : Int) = ((p_more.getD k484 0).toNat : Int)), rfl, hlt516, (by omega), rfl, rfl, rfl, rfl, rfl, rfl, rfl, rfl, rfl, rfl, rfl, rfl, rfl, rfl, rfl, rfl, rfl, rfl, rfl, (Ex.trans hf514 hE679), (loopM.cont hlt516 hB706).symm.trans hI493⟩
       ·refine CW.seq (CW.seq (CW.region (sd rfl (yM rfl rfl (sd rfl (yM rfl rfl (sd rfl (yl_slen un9 (a := p_more) rfl rfl (sd rfl (yl_lss rfl rfl rfl (dn ?_)))))))))))
        refine CW.cond_f rfl (lt_f hlt516) (CW.exit (tx (tx ?_)))
        have hL708 : loopM (B_s_l3Bytes_1 p_s p_more k5) (p_more.length - 0) 0 (false) = .done (x485) := hI493.symm.trans (loopM.stop hlt516)
        refine bx (tn (CW.seq (CW.region (sd rfl (yM rfl rfl (sd rfl (yl_not rfl rfl (dn (bcase (x485) (fun hb709 => ?_) (fun hb709 => ?_))))))))))
        ·refine CW.cond_f rfl (not_t hb709) (CW.skip (bn (tn (CW.region (sd rfl (yM rfl rfl (sd rfl (yl_inc rfl rfl rfl (by omega) (sd rfl (yA rfl rfl (SeqR.done ?_)))))))))))
         refine tn ?_
         have hB710 : B_s_l3Bytes_0 p_s p_more k5 () = .cont () := by simp only [B_s_l3Bytes_0, hb21, hb22, hb253, hb709, hL708, cL]
         exact ⟨p_s.length - (k5 + 1), by omega, k5 + 1, rfl, hlt20, (by omega), rfl, rfl, rfl, hf514, (loopM.cont hlt20 hB710).symm.trans hI13⟩
        ·refine CW.cond_t rfl (not_f hb709) (CW.seq (CW.region (sd rfl (yA rfl rfl (dn (CW.ret (br (tr ?_))))))))
         refine tr ?_
         have hB712 : B_s_l3Bytes_0 p_s p_more k5 () = .ret false := by simp only [B_s_l3Bytes_0, hb21, hb22, hb253, hb709, hL708, cL]
         have hL711 : loopM (B_s_l3Bytes_0 p_s p_more) (p_s.length - 0) 0 () = .ret false := hI13.symm.trans (loopM.ret hlt20 hB712)
         refine br (tr (rr rfl (.cons rfl .nil) ?_))
         have hM713 : (s_l3Bytes p_s p_more) = (false) := by simp only [s_l3Bytes, hb21, hb22, hb253, hb709, hL708, hL711, cL]
         rw [hM713]
         exact ⟨rfl, hf514⟩
   ·have hb21p := dec_f hb21
    refine sz rfl rfl hb21 (sz rfl rfl hb21 (sz rfl rfl hb21 (sz rfl rfl hb21 (sd rfl (yl_pick_f rfl rfl hb21 rfl (sd rfl (yM rfl rfl (sy rfl rfl rfl (yM rfl rfl (sy rfl rfl rfl (yM rfl rfl (sy rfl rfl rfl (yl_sindexN un9 (a := p_s) rfl rfl rfl (by first | omega | assumption | (simp only [wI] at *; omega)) ?_)))))))))))))
    refine sy rfl rfl rfl (yl_geq rfl rfl rfl (sy rfl rfl rfl (yM rfl rfl (bcase (decide (48 ≤ ((p_s.getD k5 0).toNat : Int))) (fun hb714 => ?_) (fun hb714 => ?_)))))
    ·have hb714p := dec_t hb714
     refine sy rfl rfl hb714 (yM rfl rfl (sy rfl rfl hb714 (yM rfl rfl (sy rfl rfl hb714 (yl_sindexN un9 (a := p_s) rfl rfl rfl (by first | omega | assumption | (simp only [wI] at *; omega)) (sy rfl rfl hb714 (yl_leq rfl rfl rfl (sy rfl rfl rfl (yl_pick_t rfl rfl hb714 rfl (sd rfl (yl_pick_f rfl rfl rfl rfl (sd rfl (yA rfl rfl (dn ?_))))))))))))))
     refine CW.seq (CW.seq (CW.region (sd rfl (yA rfl rfl (dn (CW.block (CW.loop (fun m717 L718 w719 => ∃ (k715 : Nat) (x716 : Bool), m717 = p_more.length - k715 ∧ k715 ≤ p_more.length ∧ w11.heap.size ≤ w719.heap.size ∧ lkp L718 0 = some (.string (bs (p_s))) ∧ lkp L718 1 = some (.string (bs (p_more))) ∧ lkp L718 5 = some (.int .i64 ((k5 : Int))) ∧ lkp L718 6 = some (.bool (x716)) ∧ lkp L718 7 = some (.int .i64 ((k715 : Int))) ∧ lkp L718 19 = some (undef) ∧ lkp L718 20 = some (undef) ∧ lkp L718 21 = some (undef) ∧ lkp L718 22 = some (undef) ∧ lkp L718 25 = some (.string (bs (p_s))) ∧ lkp L718 26 = some (.int .i64 ((k5 : Int))) ∧ lkp L718 27 = some (.int .u8 (((p_s.getD k5 0).toNat : Int))) ∧ lkp L718 28 = some (.bool (decide (48 ≤ ((p_s.getD k5 0).toNat : Int)))) ∧ lkp L718 29 = some (.bool (decide (48 ≤ ((p_s.getD k5 0).toNat : Int)))) ∧ lkp L718 30 = some (.string (bs (p_s))) ∧ lkp L718 31 = some (.int .i64 ((k5 : Int))) ∧ lkp L718 32 = some (.int .u8 (((p_s.getD k5 0).toNat : Int))) ∧ lkp L718 33 = some (.bool (decide (((p_s.getD k5 0).toNat : Int) ≤ 57))) ∧ lkp L718 34 = some (.bool (decide (((p_s.getD k5 0).toNat : Int) ≤ 57))) ∧ Ex w w719 ∧ loopM (B_s_l3Bytes_1 p_s p_more k5) (p_more.length - k715) k715 (x716) = loopM (B_s_l3Bytes_1 p_s p_more k5) (p_more.length - 0) 0 (decide (((p_s.getD k5 0).toNat : Int) ≤ 57))) (p_more.length - 0) ?_ ?_)))))))
     ·exact ⟨0, decide (((p_s.getD k5 0).toNat : Int) ≤ 57), rfl, (by omega), Nat.le_refl _, rfl, rfl, rfl, rfl, rfl, rfl, rfl, rfl, rfl, rfl, rfl, rfl, rfl, rfl, rfl, rfl, rfl, rfl, rfl, hf18, rfl⟩
     ·rintro m720 L721 w722 ⟨k715, x716, rfl, hk723, hsz725, hl726, hl727, hl728, hl729, hl730, hl731, hl732, hl733, hl734, hl735, hl736, hl737, hl738, hl739, hl740, hl741, hl742, hl743, hl744, hf745, hI724⟩
      refine CW.sub (Sub.cons hl726 (Sub.cons hl727 (Sub.cons hl728 (Sub.cons hl729 (Sub.cons hl730 (Sub.cons hl731 (Sub.cons hl732 (Sub.cons hl733 (Sub.cons hl734 (Sub.cons hl735 (Sub.cons hl736 (Sub.cons hl737 (Sub.cons hl738 (Sub.cons hl739 (Sub.cons hl740 (Sub.cons hl741 (Sub.cons hl742 (Sub.cons hl743 (Sub.cons hl744 (Sub.nil _)))))))))))))))))))) ?_
      have hf745z := Ex.size hf745
      have hbg746 : p_more.length ≤ 1073741824 := o2
      rcases Nat.lt_or_ge k715 p_more.length with hlt747 | hlt747
      ·refine CW.seq (CW.seq (CW.region (sd rfl (yM rfl rfl (sd rfl (yM rfl rfl (sd rfl (yl_slen un9 (a := p_more) rfl rfl (sd rfl (yl_lss rfl rfl rfl (dn ?_)))))))))))
       refine CW.cond_t rfl (lt_t hlt747) (CW.skip (tn (CW.seq (CW.block (bcase (x716) (fun hb748 => ?_) (fun hb748 => ?_))))))
       ·refine CW.drawsI 11 (vgetI ([.bool (x716), .bool (x716), undef, undef, undef, undef, undef, undef, undef, .bool (true), .bool (true)].map DetI)) Tryz.follows rfl rfl rfl rfl rfl rfl (vgetI_stable (stD _)) ⟨?_, ?_, ?_, ?_, ?_, ?_, ?_, ?_, ?_, ?_, ?_, trivial⟩ ?_
        ·exact oI rfl fun h => yM rfl (h.old 6 _ rfl rfl) kI
        ·exact oI rfl fun h => yM rfl (h.dt 0 42 rfl rfl rfl) kI
        ·exact oS rfl rfl rfl rfl rfl hb748
        ·exact oS rfl rfl rfl rfl rfl hb748
        ·exact oS rfl rfl rfl rfl rfl hb748
        ·exact oS rfl rfl rfl rfl rfl hb748
        ·exact oS rfl rfl rfl rfl rfl hb748
        ·exact oS rfl rfl rfl rfl rfl hb748
        ·exact oS rfl rfl rfl rfl rfl hb748
        ·exact oI rfl fun h => yl_pick_t rfl (h.dt 1 43 rfl rfl rfl) hb748 rfl kI
        ·exact oI rfl fun h => yA rfl (h.dt 9 51 rfl rfl rfl) kI
        ·intro fl808 fh809 L805 w806 hp807
         have hE810 := hp807.ex
         have hE810z := Ex.size hE810
         refine SeqR.done (bn (tn (CW.sub (Sub.cons (d := 0) (hp807.old 0 _ rfl rfl) (Sub.cons (d := 1) (hp807.old 1 _ rfl rfl) (Sub.cons (d := 5) (hp807.old 5 _ rfl rfl) (Sub.cons (d := 6) (hp807.nt 10 6 rfl rfl rfl) (Sub.cons (d := 7) (hp807.old 7 _ rfl rfl) (Sub.cons (d := 19) (hp807.old 19 _ rfl rfl) (Sub.cons (d := 20) (hp807.old 20 _ rfl rfl) (Sub.cons (d := 21) (hp807.old 21 _ rfl rfl) (Sub.cons (d := 22) (hp807.old 22 _ rfl rfl) (Sub.cons (d := 25) (hp807.old 25 _ rfl rfl) (Sub.cons (d := 26) (hp807.old 26 _ rfl rfl) (Sub.cons (d := 27) (hp807.old 27 _ rfl rfl) (Sub.cons (d := 28) (hp807.old 28 _ rfl rfl) (Sub.cons (d := 29) (hp807.old 29 _ rfl rfl) (Sub.cons (d := 30) (hp807.old 30 _ rfl rfl) (Sub.cons (d := 31) (hp807.old 31 _ rfl rfl) (Sub.cons (d := 32) (hp807.old 32 _ rfl rfl) (Sub.cons (d := 33) (hp807.old 33 _ rfl rfl) (Sub.cons (d := 34) (hp807.old 34 _ rfl rfl) (Sub.cons (d := 44) (hp807.nt 2 44 rfl rfl rfl) (Sub.cons (d := 45) (hp807.nt 3 45 rfl rfl rfl) (Sub.cons (d := 46) (hp807.nt 4 46 rfl rfl rfl) (Sub.cons (d := 47) (hp807.nt 5 47 rfl rfl rfl) (Sub.cons (d := 48) (hp807.nt 6 48 rfl rfl rfl) (Sub.cons (d := 49) (hp807.nt 7 49 rfl rfl rfl) (Sub.cons (d := 50) (hp807.nt 8 50 rfl rfl rfl) (Sub.nil _))))))))))))))))))))))))))) (CW.region (sd rfl (yM rfl rfl (sd rfl (yl_inc rfl rfl rfl (by omega) (sd rfl (yA rfl rfl (SeqR.done ?_)))))))))))
         refine tn ?_
         have hB837 : B_s_l3Bytes_1 p_s p_more k5 k715 (x716) = .cont (true) := by simp only [B_s_l3Bytes_1, hb21, hb714, hb748, cL]
         exact ⟨p_more.length - (k715 + 1), by omega, k715 + 1, true, rfl, hlt747, (by omega), rfl, rfl, rfl, rfl, rfl, rfl, rfl, rfl, rfl, rfl, rfl, rfl, rfl, rfl, rfl, rfl, rfl, rfl, rfl, (Ex.trans hf745 hE810), (loopM.cont hlt747 hB837).symm.trans hI724⟩
       ·refine CW.drawsI 11 (vgetI ([.bool (x716), .bool (x716), .string (bs (p_s)), .int .i64 ((k5 : Int)), .int .u8 (((p_s.getD k5 0).toNat : Int)), .string (bs (p_more)), .int .i64 ((k715 : Int)), .int .u8 (((p_more.getD k715 0).toNat : Int)), .bool (decide (((p_s.getD k5 0).toNat : Int) = ((p_more.getD k715 0).toNat : Int))), .bool (decide (((p_s.getD k5 0).toNat : Int) = ((p_more.getD k715 0).toNat : Int))), .bool (decide (((p_s.getD k5 0).toNat : Int) = ((p_more.getD k715 0).toNat : Int)))].map DetI)) Tryz.follows rfl rfl rfl rfl rfl rfl (vgetI_stable (stD _)) ⟨?_, ?_, ?_, ?_, ?_, ?_, ?_, ?_, ?_, ?_, ?_, trivial⟩ ?_
        ·exact oI rfl fun h => yM rfl (h.old 6 _ rfl rfl) kI
        ·exact oI rfl fun h => yM rfl (h.dt 0 42 rfl rfl rfl) kI
        ·exact oW rfl rfl rfl rfl hb748 fun h => yM rfl (h.old 0 _ rfl rfl) kI
        ·exact oW rfl rfl rfl rfl hb748 fun h => yM rfl (h.old 5 _ rfl rfl) kI
        ·intro L861 w862 hi863
         have hE864 := hi863.ex
         have hE864z := Ex.size hE864
         exact OpR.want rfl rfl (hi863.dt 1 43 rfl rfl rfl) hb748 (Yl.sameI (yl_sindexN un9 (a := p_s) rfl (hi863.dt 2 44 rfl rfl rfl) (hi863.dt 3 45 rfl rfl rfl) (by first | omega | assumption | (simp only [wI] at *; omega)) kI))
        ·exact oW rfl rfl rfl rfl hb748 fun h => yM rfl (h.old 1 _ rfl rfl) kI
        ·exact oW rfl rfl rfl rfl hb748 fun h => yM rfl (h.old 7 _ rfl rfl) kI
        ·intro L880 w881 hi882
         have hE883 := hi882.ex
         have hE883z := Ex.size hE883
         exact OpR.want rfl rfl (hi882.dt 1 43 rfl rfl rfl) hb748 (Yl.sameI (yl_sindexN un9 (a := p_more) rfl (hi882.dt 5 47 rfl rfl rfl) (hi882.dt 6 48 rfl rfl rfl) (by first | omega | assumption | (simp only [wI] at *; omega)) kI))
        ·exact oW rfl rfl rfl rfl hb748 fun h => yl_eql rfl (h.dt 4 46 rfl rfl rfl) (h.dt 7 49 rfl rfl rfl) kI
        ·exact oI rfl fun h => yl_pick_f rfl (h.dt 1 43 rfl rfl rfl) hb748 (h.dt 8 50 rfl rfl rfl) kI
        ·exact oI rfl fun h => yA rfl (h.dt 9 51 rfl rfl rfl) kI
        ·intro fl908 fh909 L905 w906 hp907
         have hE910 := hp907.ex
         have hE910z := Ex.size hE910
         refine SeqR.done (bn (tn (CW.sub (Sub.cons (d := 0) (hp907.old 0 _ rfl rfl) (Sub.cons (d := 1) (hp907.old 1 _ rfl rfl) (Sub.cons (d := 5) (hp907.old 5 _ rfl rfl) (Sub.cons (d := 6) (hp907.nt 10 6 rfl rfl rfl) (Sub.cons (d := 7) (hp907.old 7 _ rfl rfl) (Sub.cons (d := 19) (hp907.old 19 _ rfl rfl) (Sub.cons (d := 20) (hp907.old 20 _ rfl rfl) (Sub.cons (d := 21) (hp907.old 21 _ rfl rfl) (Sub.cons (d := 22) (hp907.old 22 _ rfl rfl) (Sub.cons (d := 25) (hp907.old 25 _ rfl rfl) (Sub.cons (d := 26) (hp907.old 26 _ rfl rfl) (Sub.cons (d := 27) (hp907.old 27 _ rfl rfl) (Sub.cons (d := 28) (hp907.old 28 _ rfl rfl) (Sub.cons (d := 29) (hp907.old 29 _ rfl rfl) (Sub.cons (d := 30) (hp907.old 30 _ rfl rfl) (Sub.cons (d := 31) (hp907.old 31 _ rfl rfl) (Sub.cons (d := 32) (hp907.old 32 _ rfl rfl) (Sub.cons (d := 33) (hp907.old 33 _ rfl rfl) (Sub.cons (d := 34) (hp907.old 34 _ rfl rfl) (Sub.cons (d := 44) (hp907.nt 2 44 rfl rfl rfl) (Sub.cons (d := 45) (hp907.nt 3 45 rfl rfl rfl) (Sub.cons (d := 46) (hp907.nt 4 46 rfl rfl rfl) (Sub.cons (d := 47) (hp907.nt 5 47 rfl rfl rfl) (Sub.cons (d := 48) (hp907.nt 6 48 rfl rfl rfl) (Sub.cons (d := 49) (hp907.nt 7 49 rfl rfl rfl) (Sub.cons (d := 50) (hp907.nt 8 50 rfl rfl rfl) (Sub.nil _))))))))))))))))))))))))))) (CW.region (sd rfl (yM rfl rfl (sd rfl (yl_inc rfl rfl rfl (by omega) (sd rfl (yA rfl rfl (SeqR.done ?_)))))))))))
         refine tn ?_
         have hB937 : B_s_l3Bytes_1 p_s p_more k5 k715 (x716) = .cont (decide (((p_s.getD k5 0).toNat : Int) = ((p_more.getD k715 0).toNat : Int))) := by simp only [B_s_l3Bytes_1, hb21, hb714, hb748, cL]
         exact ⟨p_more.length - (k715 + 1), by omega, k715 + 1, decide (((p_s.getD k5 0).toNat : Int) = ((p_more.getD k715 0).toNat : Int)), rfl, hlt747, (by omega), rfl, rfl, rfl, rfl, rfl, rfl, rfl, rfl, rfl, rfl, rfl, rfl, rfl, rfl, rfl, rfl, rfl, rfl, rfl, (Ex.trans hf745 hE910), (loopM.cont hlt747 hB937).symm.trans hI724⟩
      ·refine CW.seq (CW.seq (CW.region (sd rfl (yM rfl rfl (sd rfl (yM rfl rfl (sd rfl (yl_slen un9 (a := p_more) rfl rfl (sd rfl (yl_lss rfl rfl rfl (dn ?_)))))))))))
       refine CW.cond_f rfl (lt_f hlt747) (CW.exit (tx (tx ?_)))
       have hL939 : loopM (B_s_l3Bytes_1 p_s p_more k5) (p_more.length - 0) 0 (decide (((p_s.getD k5 0).toNat : Int) ≤ 57)) = .done (x716) := hI724.symm.trans (loopM.stop hlt747)
       refine bx (tn (CW.seq (CW.region (sd rfl (yM rfl rfl (sd rfl (yl_not rfl rfl (dn (bcase (x716) (fun hb940 => ?_) (fun hb940 => ?_))))))))))
       ·refine CW.cond_f rfl (not_t hb940) (CW.skip (bn (tn (CW.region (sd rfl (yM rfl rfl (sd rfl (yl_inc rfl rfl rfl (by omega) (sd rfl (yA rfl rfl (SeqR.done ?_)))))))))))
        refine tn ?_
        have hB941 : B_s_l3Bytes_0 p_s p_more k5 () = .cont () := by simp only [B_s_l3Bytes_0, hb21, hb714, hb940, hL939, cL]
        exact ⟨p_s.length - (k5 + 1), by omega, k5 + 1, rfl, hlt20, (by omega), rfl, rfl, rfl, hf745, (loopM.cont hlt20 hB941).symm.trans hI13⟩
       ·refine CW.cond_t rfl (not_f hb940) (CW.seq (CW.region (sd rfl (yA rfl rfl (dn (CW.ret (br (tr ?_))))))))
        refine tr ?_
        have hB943 : B_s_l3Bytes_0 p_s p_more k5 () = .ret false := by simp only [B_s_l3Bytes_0, hb21, hb714, hb940, hL939, cL]
        have hL942 : loopM (B_s_l3Bytes_0 p_s p_more) (p_s.length - 0) 0 () = .ret false := hI13.symm.trans (loopM.ret hlt20 hB943)
        refine br (tr (rr rfl (.cons rfl .nil) ?_))
        have hM944 : (s_l3Bytes p_s p_more) = (false) := by simp only [s_l3Bytes, hb21, hb714, hb940, hL939, hL942, cL]
        rw [hM944]
        exact ⟨rfl, hf745⟩
    ·have hb714p := dec_f hb714
     refine sz rfl rfl hb714 (sz rfl rfl hb714 (sz rfl rfl hb714 (sz rfl rfl hb714 (sy rfl rfl rfl (yl_pick_f rfl rfl hb714 rfl (sd rfl (yl_pick_f rfl rfl rfl rfl (sd rfl (yA rfl rfl (dn ?_))))))))))
     refine CW.seq (CW.seq (CW.region (sd rfl (yA rfl rfl (dn (CW.block (CW.loop (fun m947 L948 w949 => ∃ (k945 : Nat) (x946 : Bool), m947 = p_more.length - k945 ∧ k945 ≤ p_more.length ∧ w11.heap.size ≤ w949.heap.size ∧ lkp L948 0 = some (.string (bs (p_s))) ∧ lkp L948 1 = some (.string (bs (p_more))) ∧ lkp L948 5 = some (.int .i64 ((k5 : Int))) ∧ lkp L948 6 = some (.bool (x946)) ∧ lkp L948 7 = some (.int .i64 ((k945 : Int))) ∧ lkp L948 19 = some (undef) ∧ lkp L948 20 = some (undef) ∧ lkp L948 21 = some (undef) ∧ lkp L948 22 = some (undef) ∧ lkp L948 25 = some (.string (bs (p_s))) ∧ lkp L948 26 = some (.int .i64 ((k5 : Int))) ∧ lkp L948 27 = some (.int .u8 (((p_s.getD k5 0).toNat : Int))) ∧ lkp L948 28 = some (.bool (decide (48 ≤ ((p_s.getD k5 0).toNat : Int)))) ∧ lkp L948 29 = some (.bool (decide (48 ≤ ((p_s.getD k5 0).toNat : Int)))) ∧ lkp L948 30 = some (undef) ∧ lkp L948 31 = some (undef) ∧ lkp L948 32 = some (undef) ∧ lkp L948 33 = some (undef) ∧ lkp L948 34 = some (.bool (false)) ∧ Ex w w949 ∧ loopM (B_s_l3Bytes_1 p_s p_more k5) (p_more.length - k945) k945 (x946) = loopM (B_s_l3Bytes_1 p_s p_more k5) (p_more.length - 0) 0 (false)) (p_more.length - 0) ?_ ?_)))))))
     ·exact ⟨0, false, rfl, (by omega), Nat.le_refl _, rfl, rfl, rfl, rfl, rfl, rfl, rfl, rfl, rfl, rfl, rfl, rfl, rfl, rfl, rfl, rfl, rfl, rfl, rfl, hf18, rfl⟩
     ·rintro m950 L951 w952 ⟨k945, x946, rfl, hk953, hsz955, hl956, hl957, hl958, hl959, hl960, hl961, hl962, hl963, hl964, hl965, hl966, hl967, hl968, hl969, hl970, hl971, hl972, hl973, hl974, hf975, hI954⟩
      refine CW.sub (Sub.cons hl956 (Sub.cons hl957 (Sub.cons hl958 (Sub.cons hl959 (Sub.cons hl960 (Sub.cons hl961 (Sub.cons hl962 (Sub.cons hl963 (Sub.cons hl964 (Sub.cons hl965 (Sub.cons hl966 (Sub.cons hl967 (Sub.cons hl968 (Sub.cons hl969 (Sub.cons hl970 (Sub.cons hl971 (Sub.cons hl972 (Sub.cons hl973 (Sub.cons hl974 (Sub.nil _)))))))))))))))))))) ?_
      have hf975z := Ex.size hf975
      have hbg976 : p_more.length ≤ 1073741824 := o2
      rcases Nat.lt_or_ge k945 p_more.length with hlt977 | hlt977
      ·refine CW.seq (CW.seq (CW.region (sd rfl (yM rfl rfl (sd rfl (yM rfl rfl (sd rfl (yl_slen un9 (a := p_more) rfl rfl (sd rfl (yl_lss rfl rfl rfl (dn ?_)))))))))))
       refine CW.cond_t rfl (lt_t hlt977) (CW.skip (tn (CW.seq (CW.block (bcase (x946) (fun hb978 => ?_) (fun hb978 => ?_))))))
       ·refine CW.drawsI 11 (vgetI ([.bool (x946), .bool (x946), undef, undef, undef, undef, undef, undef, undef, .bool (true), .bool (true)].map DetI)) Tryz.follows rfl rfl rfl rfl rfl rfl (vgetI_stable (stD _)) ⟨?_, ?_, ?_, ?_, ?_, ?_, ?_, ?_, ?_, ?_, ?_, trivial⟩ ?_
        ·exact oI rfl fun h => yM rfl (h.old 6 _ rfl rfl) kI
        ·exact oI rfl fun h => yM rfl (h.dt 0 42 rfl rfl rfl) kI
        ·exact oS rfl rfl rfl rfl rfl hb978
        ·exact oS rfl rfl rfl rfl rfl hb978
        ·exact oS rfl rfl rfl rfl rfl hb978
        ·exact oS rfl rfl rfl rfl rfl hb978
        ·exact oS rfl rfl rfl rfl rfl hb978
        ·exact oS rfl rfl rfl rfl rfl hb978
        ·exact oS rfl rfl rfl rfl rfl hb978
        ·exact oI rfl fun h => yl_pick_t rfl (h.dt 1 43 rfl rfl rfl) hb978 rfl kI
        ·exact oI rfl fun h => yA rfl (h.dt 9 51 rfl rfl rfl) kI
        ·intro fl1038 fh1039 L1035 w1036 hp1037
         have hE1040 := hp1037.ex
         have hE1040z := Ex.size hE1040
         refine SeqR.done (bn (tn (CW.sub (Sub.cons (d := 0) (hp1037.old 0 _ rfl rfl) (Sub.cons (d := 1) (hp1037.old 1 _ rfl rfl) (Sub.cons (d := 5) (hp1037.old 5 _ rfl rfl) (Sub.cons (d := 6) (hp1037.nt 10 6 rfl rfl rfl) (Sub.cons (d := 7) (hp1037.old 7 _ rfl rfl) (Sub.cons (d := 19) (hp1037.old 19 _ rfl rfl) (Sub.cons (d := 20) (hp1037.old 20 _ rfl rfl) (Sub.cons (d := 21) (hp1037.old 21 _ rfl rfl) (Sub.cons (d := 22) (hp1037.old 22 _ rfl rfl) (Sub.cons (d := 25) (hp1037.old 25 _ rfl rfl) (Sub.cons (d := 26) (hp1037.old 26 _ rfl rfl) (Sub.cons (d := 27) (hp1037.old 27 _ rfl rfl) (Sub.cons (d := 28) (hp1037.old 28 _ rfl rfl) (Sub.cons (d := 29) (hp1037.old 29 _ rfl rfl) (Sub.cons (d := 30) (hp1037.old 30 _ rfl rfl) (Sub.cons (d := 31) (hp1037.old 31 _ rfl rfl) (Sub.cons (d := 32) (hp1037.old 32 _ rfl rfl) (Sub.cons (d := 33) (hp1037.old 33 _ rfl rfl) (Sub.cons (d := 34) (hp1037.old 34 _ rfl rfl) (Sub.cons (d := 44) (hp1037.nt 2 44 rfl rfl rfl) (Sub.cons (d := 45) (hp1037.nt 3 45 rfl rfl rfl) (Sub.cons (d := 46) (hp1037.nt 4 46 rfl rfl rfl) (Sub.cons (d := 47) (hp1037.nt 5 47 rfl rfl rfl) (Sub.cons (d := 48) (hp1037.nt 6 48 rfl rfl rfl) (Sub.cons (d := 49) (hp1037.nt 7 49 rfl rfl rfl) (Sub.cons (d := 50) (hp1037.nt 8 50 rfl rfl rfl) (Sub.nil _))))))))))))))))))))))))))) (CW.region (sd rfl (yM rfl rfl (sd rfl (yl_inc rfl rfl rfl (by omega) (sd rfl (yA rfl rfl (SeqR.done ?_)))))))))))
         refine tn ?_
         have hB1067 : B_s_l3Bytes_1 p_s p_more k5 k945 (x946) = .cont (true) := by simp only [B_s_l3Bytes_1, hb21, hb714, hb978, cL]
         exact ⟨p_more.length - (k945 + 1), by omega, k945 + 1, true, rfl, hlt977, (by omega), rfl, rfl, rfl, rfl, rfl, rfl, rfl, rfl, rfl, rfl, rfl, rfl, rfl, rfl, rfl, rfl, rfl, rfl, rfl, (Ex.trans hf975 hE1040), (loopM.cont hlt977 hB1067).symm.trans hI954⟩
       ·refine CW.drawsI 11 (vgetI ([.bool (x946), .bool (x946), .string (bs (p_s)), .int .i64 ((k5 : Int)), .int .u8 (((p_s.getD k5 0).toNat : Int)), .string (bs (p_more)), .int .i64 ((k945 : Int)), .int .u8 (((p_more.getD k945 0).toNat : Int)), .bool (decide (((p_s.getD k5 0).toNat : Int) = ((p_more.getD k945 0).toNat : Int))), .bool (decide (((p_s.getD k5 0).toNat : Int) = ((p_more.getD k945 0).toNat : Int))), .bool (decide (((p_s.getD k5 0).toNat : Int) = ((p_more.getD k945 0).toNat : Int)))].map DetI)) Tryz.follows rfl rfl rfl rfl rfl rfl (vgetI_stable (stD _)) ⟨?_, ?_, ?_, ?_, ?_, ?_, ?_, ?_, ?_, ?_, ?_, trivial⟩ ?_
        ·exact oI rfl fun h => yM rfl (h.old 6 _ rfl rfl) kI
        ·exact oI rfl fun h => yM rfl (h.dt 0 42 rfl rfl rfl) kI
        ·exact oW rfl rfl rfl rfl hb978 fun h => yM rfl (h.old 0 _ rfl rfl) kI
        ·exact oW rfl rfl rfl rfl hb978 fun h => yM rfl (h.old 5 _ rfl rfl) kI
        ·intro L1091 w1092 hi1093
         have hE1094 := hi1093.ex
         have hE1094z := Ex.size hE1094
         exact OpR.want rfl rfl (hi1093.dt 1 43 rfl rfl rfl) hb978 (Yl.sameI (yl_sindexN un9 (a := p_s) rfl (hi1093.dt 2 44 rfl rfl rfl) (hi1093.dt 3 45 rfl rfl rfl) (by first | omega | assumption | (simp only [wI] at *; omega)) kI))
        ·exact oW rfl rfl rfl rfl hb978 fun h => yM rfl (h.old 1 _ rfl rfl) kI
        ·exact oW rfl rfl rfl rfl hb978 fun h => yM rfl (h.old 7 _ rfl rfl) kI
        ·intro L1110 w1111 hi1112
         have hE1113 := hi1112.ex
         have hE1113z := Ex.size hE1113
         exact OpR.want rfl rfl (hi1112.dt 1 43 rfl rfl rfl) hb978 (Yl.sameI (yl_sindexN un9 (a := p_more) rfl (hi1112.dt 5 47 rfl rfl rfl) (hi1112.dt 6 48 rfl rfl rfl) (by first | omega | assumption | (simp only [wI] at *; omega)) kI))
        ·exact oW rfl rfl rfl rfl hb978 fun h => yl_eql rfl (h.dt 4 46 rfl rfl rfl) (h.dt 7 49 rfl rfl rfl) kI
        ·exact oI rfl fun h => yl_pick_f rfl (h.dt 1 43 rfl rfl rfl) hb978 (h.dt 8 50 rfl rfl rfl) kI
        ·exact oI rfl fun h => yA rfl (h.dt 9 51 rfl rfl rfl) kI
        ·intro fl1138 fh1139 L1135 w1136 hp1137
         have hE1140 := hp1137.ex
         have hE1140z := Ex.size hE1140
         refine SeqR.done (bn (tn (CW.sub (Sub.cons (d := 0) (hp1137.old 0 _ rfl rfl) (Sub.cons (d := 1) (hp1137.old 1 _ rfl rfl) (Sub.cons (d := 5) (hp1137.old 5 _ rfl rfl) (Sub.cons (d := 6) (hp1137.nt 10 6 rfl rfl rfl) (Sub.cons (d := 7) (hp1137.old 7 _ rfl rfl) (Sub.cons (d := 19) (hp1137.old 19 _ rfl rfl) (Sub.cons (d := 20) (hp1137.old 20 _ rfl rfl) (Sub.cons (d := 21) (hp1137.old 21 _ rfl rfl) (Sub.cons (d := 22) (hp1137.old 22 _ rfl rfl) (Sub.cons (d := 25) (hp1137.old 25 _ rfl rfl) (Sub.cons (d := 26) (hp1137.old 26 _ rfl rfl) (Sub.cons (d := 27) (hp1137.old 27 _ rfl rfl) (Sub.cons (d := 28) (hp1137.old 28 _ rfl rfl) (Sub.cons (d := 29) (hp1137.old 29 _ rfl rfl) (Sub.cons (d := 30) (hp1137.old 30 _ rfl rfl) (Sub.cons (d := 31) (hp1137.old 31 _ rfl rfl) (Sub.cons (d := 32) (hp1137.old 32 _ rfl rfl) (Sub.cons (d := 33) (hp1137.old 33 _ rfl rfl) (Sub.cons (d := 34) (hp1137.old 34 _ rfl rfl) (Sub.cons (d := 44) (hp1137.nt 2 44 rfl rfl rfl) (Sub.cons (d := 45) (hp1137.nt 3 45 rfl rfl rfl) (Sub.cons (d := 46) (hp1137.nt 4 46 rfl rfl rfl) (Sub.cons (d := 47) (hp1137.nt 5 47 rfl rfl rfl) (Sub.cons (d := 48) (hp1137.nt 6 48 rfl rfl rfl) (Sub.cons (d := 49) (hp1137.nt 7 49 rfl rfl rfl) (Sub.cons (d := 50) (hp1137.nt 8 50 rfl rfl rfl) (Sub.nil _))))))))))))))))))))))))))) (CW.region (sd rfl (yM rfl rfl (sd rfl (yl_inc rfl rfl rfl (by omega) (sd rfl (yA rfl rfl (SeqR.done ?_)))))))))))
         refine tn ?_
         have hB1167 : B_s_l3Bytes_1 p_s p_more k5 k945 (x946) = .cont (decide (((p_s.getD k5 0).toNat : Int) = ((p_more.getD k945 0).toNat : Int))) := by simp only [B_s_l3Bytes_1, hb21, hb714, hb978, cL]
         exact ⟨p_more.length - (k945 + 1), by omega, k945 + 1, decide (((p_s.getD k5 0).toNat : Int) = ((p_more.getD k945 0).toNat : Int)), rfl, hlt977, (by omega), rfl, rfl, rfl, rfl, rfl, rfl, rfl, rfl, rfl, rfl, rfl, rfl, rfl, rfl, rfl, rfl, rfl, rfl, rfl, (Ex.trans hf975 hE1140), (loopM.cont hlt977 hB1167).symm.trans hI954⟩
      ·refine CW.seq (CW.seq (CW.region (sd rfl (yM rfl rfl (sd rfl (yM rfl rfl (sd rfl (yl_slen un9 (a := p_more) rfl rfl (sd rfl (yl_lss rfl rfl rfl (dn ?_)))))))))))
       refine CW.cond_f rfl (lt_f hlt977) (CW.exit (tx (tx ?_)))
       have hL1169 : loopM (B_s_l3Bytes_1 p_s p_more k5) (p_more.length - 0) 0 (false) = .done (x946) := hI954.symm.trans (loopM.stop hlt977)
       refine bx (tn (CW.seq (CW.region (sd rfl (yM rfl rfl (sd rfl (yl_not rfl rfl (dn (bcase (x946) (fun hb1170 => ?_) (fun hb1170 => ?_))))))))))
       ·refine CW.cond_f rfl (not_t hb1170) (CW.skip (bn (tn (CW.region (sd rfl (yM rfl rfl (sd rfl (yl_inc rfl rfl rfl (by omega) (sd rfl (yA rfl rfl (SeqR.done ?_)))))))))))
        refine tn ?_
        have hB1171 : B_s_l3Bytes_0 p_s p_more k5 () = .cont () := by simp only [B_s_l3Bytes_0, hb21, hb714, hb1170, hL1169, cL]
        exact ⟨p_s.length - (k5 + 1), by omega, k5 + 1, rfl, hlt20, (by omega), rfl, rfl, rfl, hf975, (loopM.cont hlt20 hB1171).symm.trans hI13⟩
       ·refine CW.cond_t rfl (not_f hb1170) (CW.seq (CW.region (sd rfl (yA rfl rfl (dn (CW.ret (br (tr ?_))))))))
        refine tr ?_
        have hB1173 : B_s_l3Bytes_0 p_s p_more k5 () = .ret false := by simp only [B_s_l3Bytes_0, hb21, hb714, hb1170, hL1169, cL]
        have hL1172 : loopM (B_s_l3Bytes_0 p_s p_more) (p_s.length - 0) 0 () = .ret false := hI13.symm.trans (loopM.ret hlt20 hB1173)
        refine br (tr (rr rfl (.cons rfl .nil) ?_))
        have hM1174 : (s_l3Bytes p_s p_more) = (false) := by simp only [s_l3Bytes, hb21, hb714, hb1170, hL1169, hL1172, cL]
        rw [hM1174]
        exact ⟨rfl, hf975⟩
  ·refine CW.seq (CW.seq (CW.region (sd rfl (yM rfl rfl (sd rfl (yM rfl rfl (sd rfl (yl_slen un9 (a := p_s) rfl rfl (sd rfl (yl_lss rfl rfl rfl (dn ?_)))))))))))
   refine CW.cond_f rfl (lt_f hlt20) (CW.exit (tx (tx ?_)))
   have hL1175 : loopM (B_s_l3Bytes_0 p_s p_more) (p_s.length - 0) 0 () = .done () := hI13.symm.trans (loopM.stop hlt20)
   refine bx (tn (CW.seq (CW.region (sd rfl (yA rfl rfl (dn (CW.ret (rr rfl (.cons rfl .nil) ?_))))))))
   have hM1176 : (s_l3Bytes p_s p_more) = (true) := by simp only [s_l3Bytes, hL1175, cL]
   rw [hM1176]
   exact ⟨rfl, hf18⟩
theorem c_s_l25Field {w : World} (p_s : Str) (o1 : okS p_s) : Cal Tryz.prog 75 #[.string (bs (p_s))] w fun v w' => v = .bool ((s_l25Field p_s)) ∧ Ex w w' := by
 refine Cal.of func75 rfl ntmps75 rfl (CW.seq (CW.region (sd rfl (yA rfl rfl (dn (CW.seq (CW.region (sd rfl (yM rfl rfl ?_)))))))))
 refine sd rfl (yl_slen un9 (a := p_s) rfl rfl (sd rfl (yC en59 rfl (oc rfl (oc rfl (oc rfl oz))) (Cal.mono (c_s_l1In (p_s.length : Int) 1 3) ?_))))
 rintro v4 w3 ⟨rfl, hE5⟩
 refine sd rfl (yM rfl rfl (bcase (s_l1In (p_s.length : Int) 1 3) (fun hb6 => ?_) (fun hb6 => ?_)))
 ·have hb6p := f_l1In hb6
  refine sy rfl rfl hb6 (yM rfl rfl (sy rfl rfl hb6 (yC en97 rfl (oc rfl (oc rfl oz)) (Cal.mono (c_s_l3Bytes p_s ([] : Str) o1 (okS.lit rfl)) ?_))))
  rintro v8 w7 ⟨rfl, hE9⟩
  refine sd rfl (yl_pick_t rfl rfl hb6 rfl (sd rfl (yA rfl rfl (dn (CW.ret (rr rfl (.cons rfl .nil) ?_))))))
  have hM10 : (s_l25Field p_s) = ((s_l3Bytes p_s ([] : Str))) := by simp only [s_l25Field, hb6, cL]
  rw [hM10]
  exact ⟨rfl, (Ex.trans (Ex.trans (Ex.refl w) hE5) hE9)⟩
 ·refine sz rfl rfl hb6 (sz rfl rfl hb6 (sd rfl (yl_pick_f rfl rfl hb6 rfl (sd rfl (yA rfl rfl (dn (CW.ret (rr rfl (.cons rfl .nil) ?_))))))))
  have hM13 : (s_l25Field p_s) = (false) := by simp only [s_l25Field, hb6, cL]
  rw [hM13]
  exact ⟨rfl, (Ex.trans (Ex.refl w) hE5)⟩
theorem c_s_l25Good {A1 : Option Addr} {c1 : Nat} {A2 : Option Addr} {c2 : Nat} {A4 : Option Addr} {c4 : Nat} {w : World} (p_t : DTable) (p_r : DRow) (h1 : RdS w (Iv 0 w.heap.size) (RF e_Str) 1 A1 p_t.Cols.length c1 p_t.Cols) (h2 : RdS w (Iv 0 w.heap.size) (RF e_Idx) 3 A2 p_t.Idxs.length c2 p_t.Idxs) (h4 : RdS w (Iv 0 w.heap.size) (RF e_Str) 1 A4 p_r.Vals.length c4 p_r.Vals) (o3 : ok_Table p_t) (o5 : ok_Row p_r) : Cal Tryz.prog 88 #[.agg #[.string (bs (p_t.Name)), .slice A1 p_t.Cols.length c1, .slice A2 p_t.Idxs.length c2], .agg #[.slice A4 p_r.Vals.length c4]] w fun v w' => v = .bool ((s_l25Good p_t p_r)) ∧ Ex w w' := by
 have hol6 : p_t.Name.length ≤ 1073741824 := o3.1
 have hol7 := o3.2.1.1
 have hol8 := o3.2.2.1
 have hol9 := o5.1
 refine Cal.of func88 rfl ntmps88 rfl (CW.seq (CW.region (sd rfl (yl_box rfl rfl rfl ?_))))
 intro b10 w11 hs12 hz13 hB14 hE15
 refine sd rfl (yl_box rfl rfl rfl ?_)
 intro b16 w17 hs18 hz19 hB20 hE21
 refine sd rfl (yA rfl rfl (dn (CW.seq (CW.seq (CW.region (sd rfl (yl_fieldAddr fd38_0 rfl rfl (sd rfl (yl_load1 ty23 rfl rfl ((hB20.cell 0).trans rfl) (sd rfl (yL un23 rfl rfl ?_)))))))))))
 refine sd rfl (yM rfl rfl (dn (CW.block (CW.loop (fun m23 L24 w25 => ∃ (k22 : Nat), m23 = p_r.Vals.length - k22 ∧ k22 ≤ p_r.Vals.length ∧ w17.heap.size ≤ w25.heap.size ∧ lkp L24 2 = some (.pointer (some ⟨b10, 0, none⟩)) ∧ lkp L24 3 = some (.pointer (some ⟨b16, 0, none⟩)) ∧ lkp L24 8 = some (.slice A4 p_r.Vals.length c4) ∧ lkp L24 9 = some (.int .i64 ((p_r.Vals.length : Int))) ∧ lkp L24 10 = some (.int .i64 ((k22 : Int))) ∧ Box w25 b10 26 [.string (bs (p_t.Name)), .slice A1 p_t.Cols.length c1, .slice A2 p_t.Idxs.length c2] ∧ RdS w25 (Iv 0 w.heap.size) (RF e_Str) 1 A1 p_t.Cols.length c1 p_t.Cols ∧ RdS w25 (Iv 0 w.heap.size) (RF e_Idx) 3 A2 p_t.Idxs.length c2 p_t.Idxs ∧ Box w25 b16 38 [.slice A4 p_r.Vals.length c4] ∧ RdS w25 (Iv 0 w.heap.size) (RF e_Str) 1 A4 p_r.Vals.length c4 p_r.Vals ∧ Ex w w25 ∧ loopM (B_s_l25Good_0 p_t p_r) (p_r.Vals.length - k22) k22 () = loopM (B_s_l25Good_0 p_t p_r) (p_r.Vals.length - 0) 0 ()) (p_r.Vals.length - 0) ?_ ?_))))
 ·exact ⟨0, rfl, (by omega), Nat.le_refl _, rfl, rfl, rfl, rfl, rfl, (Box.ex hB14 hE21), (RdS.ex gS (RdS.ex gS h1 hE15) hE21), (RdS.ex gI (RdS.ex gI h2 hE15) hE21), hB20, (RdS.ex gS (RdS.ex gS h4 hE15) hE21), (Ex.trans (Ex.trans (Ex.refl w) hE15) hE21), rfl⟩
 ·rintro m35 L36 w37 ⟨k22, rfl, hk38, hsz40, hl41, hl42, hl43, hl44, hl45, hf46, hf47, hf48, hf49, hf50, hf51, hI39⟩
  refine CW.sub (Sub.cons hl41 (Sub.cons hl42 (Sub.cons hl43 (Sub.cons hl44 (Sub.cons hl45 (Sub.nil _)))))) ?_
  have hf46z := Box.lt hf46
  have hf49z := Box.lt hf49
  have hf51z := Ex.size hf51
  have hbg52 := RdS.big hf50
  rcases Nat.lt_or_ge k22 p_r.Vals.length with hlt53 | hlt53
  ·refine CW.seq (CW.region (sd rfl (yl_lss rfl rfl rfl (dn (CW.seq (CW.cond_t rfl (lt_t hlt53) (CW.skip (tn ?_))))))))
   refine CW.seq (CW.block (CW.seq (CW.region ?_)))
   obtain ⟨eb54, eo54, _, eA54, _, ebl54, _, eR54, eC54⟩ := RdS.aD hf50 d_Str (i := k22)
   obtain rfl := eR54
   have eC54 : Cells w37 eb54 (eo54 + k22 * 1) [.string (bs ((p_r.Vals.getD k22 d_Str)))] := eC54
   refine sd rfl (yl_ixN un23 ty9 rfl rfl rfl eA54 (sd rfl (yl_load1 ty9 rfl rfl (eC54 0 _ rfl) (sd rfl (yA rfl rfl (dn (CW.seq (CW.region (sd rfl (yM rfl rfl (sd rfl (yC en75 rfl (oc rfl oz) (Cal.mono (c_s_l25Field (p_r.Vals.getD k22 d_Str) (okL.getD o5 ok_d_Str _)) ?_)))))))))))))
   rintro v56 w55 ⟨rfl, hE57⟩
   have hE57z := Ex.size hE57
   refine sd rfl (yl_not rfl rfl (dn (bcase (s_l25Field (p_r.Vals.getD k22 d_Str)) (fun hb58 => ?_) (fun hb58 => ?_))))
   ·refine CW.cond_f rfl (not_t hb58) (CW.skip (bn (tn (CW.region (sd rfl (yl_inc rfl rfl rfl (by omega) (sd rfl (yM rfl rfl (dn ?_)))))))))
    have hB59 : B_s_l25Good_0 p_t p_r k22 () = .cont () := by simp only [B_s_l25Good_0, hb58, cL]
    exact ⟨p_r.Vals.length - (k22 + 1), by omega, k22 + 1, rfl, hlt53, (by omega), rfl, rfl, rfl, rfl, rfl, (Box.ex hf46 hE57), (RdS.ex gS hf47 hE57), (RdS.ex gI hf48 hE57), (Box.ex hf49 hE57), (RdS.ex gS hf50 hE57), (Ex.trans hf51 hE57), (loopM.cont hlt53 hB59).symm.trans hI39⟩
   ·refine CW.cond_t rfl (not_f hb58) (CW.seq (CW.region (sd rfl (yA rfl rfl (dn (CW.ret (br (tr ?_))))))))
    refine tr ?_
    have hB67 : B_s_l25Good_0 p_t p_r k22 () = .ret false := by simp only [B_s_l25Good_0, hb58, cL]
    have hL66 : loopM (B_s_l25Good_0 p_t p_r) (p_r.Vals.length - 0) 0 () = .ret false := hI39.symm.trans (loopM.ret hlt53 hB67)
    refine br (tr (rr rfl (.cons rfl .nil) ?_))
    have hM68 : (s_l25Good p_t p_r) = (false) := by simp only [s_l25Good, hb58, hL66, cL]
    rw [hM68]
    exact ⟨rfl, (Ex.trans hf51 hE57)⟩
  ·refine CW.seq (CW.region (sd rfl (yl_lss rfl rfl rfl (dn (CW.seq (CW.cond_f rfl (lt_f hlt53) (CW.exit (tx ?_))))))))
   refine tx ?_
   have hL70 : loopM (B_s_l25Good_0 p_t p_r) (p_r.Vals.length - 0) 0 () = .done () := hI39.symm.trans (loopM.stop hlt53)
   refine bx (tn (CW.seq (CW.region (sd rfl (yl_fieldAddr fd38_0 rfl rfl (sd rfl (yl_load1 ty23 rfl rfl ((hf49.cell 0).trans rfl) (sd rfl (yL un23 rfl rfl (sd rfl (yl_fieldAddr fd26_1 rfl rfl (sd rfl (yl_load1 ty23 rfl rfl ((hf46.cell 1).trans rfl) ?_)))))))))))))
   refine sd rfl (yL un23 rfl rfl (sd rfl (yl_eql rfl rfl rfl (sd rfl (yA rfl rfl (dn (CW.ret (rr rfl (.cons rfl .nil) ?_))))))))
   have hM71 : (s_l25Good p_t p_r) = (decide ((p_r.Vals.length : Int) = (p_t.Cols.length : Int))) := by simp only [s_l25Good, hL70, cL]
   rw [hM71]
   exact ⟨rfl, hf51⟩
theorem c_s_l25Read {A1 : Option Addr} {c1 : Nat} {A2 : Option Addr} {c2 : Nat} {w : World} (p_t : DTable) (p_w : DWrite) (h1 : RdS w (Iv 0 w.heap.size) (RF e_Str) 1 A1 p_t.Cols.length c1 p_t.Cols) (h2 : RdS w (Iv 0 w.heap.size) (RF e_Idx) 3 A2 p_t.Idxs.length c2 p_t.Idxs) (o3 : ok_Table p_t) (o4 : ok_Write p_w) : Cal Tryz.prog 61 #[.agg #[.string (bs (p_t.Name)), .slice A1 p_t.Cols.length c1, .slice A2 p_t.Idxs.length c2], .agg #[.string (bs (p_w.Key)), .string (bs (p_w.Val)), .bool (p_w.Gone)]] w fun v w' => ∃ A_1 c_1 lo_1 hi_1, v = .tuple #[.agg #[.slice A_1 (((s_l25Read p_t p_w).1.Vals).length) c_1], .bool ((s_l25Read p_t p_w).2)] ∧ OwnL w' lo_1 hi_1 9 1 (RF e_Str) A_1 (((s_l25Read p_t p_w).1.Vals).length) c_1 ((s_l25Read p_t p_w).1.Vals) ∧ ok_Row ((s_l25Read p_t p_w).1) ∧ (w.heap.size ≤ lo_1 ∧ lo_1 ≤ hi_1 ∧ hi_1 ≤ w'.heap.size) ∧ Ex w w' := by
 have hol5 : p_t.Name.length ≤ 1073741824 := o3.1
 have hol6 := o3.2.1.1
 have hol7 := o3.2.2.1
 have hol8 : p_w.Key.length ≤ 1073741824 := o4.1
 have hol9 : p_w.Val.length ≤ 1073741824 := o4.2
 refine Cal.of func61 rfl ntmps61 rfl (CW.seq (CW.region (sd rfl (yl_box rfl rfl rfl ?_))))
 intro b10 w11 hs12 hz13 hB14 hE15
 refine sd rfl (yl_box rfl rfl rfl ?_)
 intro b16 w17 hs18 hz19 hB20 hE21
 refine sd rfl (yB ty38 (cs := [.slice none 0 0]) rfl rfl ?_)
 intro b22 w23 hs24 hz25 hB26 hE27
 refine sd rfl (yA rfl rfl (dn (CW.seq (CW.seq (CW.region (sd rfl (yl_fieldAddr fd66_0 rfl rfl ?_)))))))
 have q28 := Box.ex hB20 hE27
 refine sd rfl (yl_load1 ty9 rfl rfl ((q28.cell 0).trans rfl) (sd rfl (yl_slen un9 (a := p_w.Key) rfl rfl (sd rfl (yl_lss rfl rfl rfl (dn (bcase (decide ((p_w.Key.length : Int) < 3)) (fun hb29 => ?_) (fun hb29 => ?_))))))))
 ·have hb29p := dec_t hb29
  refine CW.cond_t rfl hb29 (CW.seq (CW.region (sd rfl (yl_build (cs := [.slice none 0 0]) rfl opvs_nil (by kernel_rfl) (SeqR.u rfl rfl (yl_store (vs := [.slice none 0 0]) ty38 rfl rfl rfl rfl rfl rfl hB26 (Nat.le_of_ble_eq_true rfl) ?_))))))
  intro w30 hB31 hO32
  have hB31 : Box w30 b22 38 [.slice none 0 0] := hB31
  have hO32z := hO32.size
  refine sd rfl (yA rfl rfl (dn (CW.ret (tr (rr rfl (.cons ⟨_, rfl, run_loadN ty38 (cs := [.slice none 0 0]) rfl (hB31.cells (n := 1) rfl)⟩ (.cons rfl .nil)) ?_)))))
  have hM33 : (s_l25Read p_t p_w) = (((⟨[]⟩ : DRow), false)) := by simp only [s_l25Read, hb29, cL]
  rw [hM33]
  exact ⟨none, 0, w30.heap.size, w30.heap.size, rfl, (OwnL.nil _ _ _ _ _ _), (okL.nil _), (by omega), (Below.only (Ex.trans (Ex.trans (Ex.trans (Ex.refl w) hE15) hE21) hE27) hO32 (by omega))⟩
 ·have hb29p := dec_f hb29
  refine CW.cond_f rfl hb29 (CW.skip (tn (CW.seq ?_)))
  have hrf49 := rf_l1Split p_w.Val 44
  refine CW.drawsG 10 (fun _ _ => False) (fun _ _ _ => False) (vgetG [DetG (.pointer (some ⟨b16, 0 + 0, none⟩)), DetG (.string (bs (p_w.Key))), DetG (.string (bs ((p_w.Key.drop 2)))), fun G v wq => ∃ A38, v = .slice A38 1 1 ∧ (G.dn 7 = false → OwnL wq (G.fl 3) (G.fh 3) 9 1 (RF e_Str) A38 1 1 ([(p_w.Key.drop 2)] : List Str)), DetG (.pointer (some ⟨b16, 0 + 1, none⟩)), DetG (.string (bs (p_w.Val))), fun G v wq => ∃ A42 c42 lo42 hi42, v = .slice A42 ((s_l1Split p_w.Val 44).length) c42 ∧ OwnL wq lo42 hi42 9 1 (RF e_Str) A42 ((s_l1Split p_w.Val 44).length) c42 (s_l1Split p_w.Val 44) ∧ (okL okS) (s_l1Split p_w.Val 44) ∧ ((G.fl 6) ≤ lo42 ∧ lo42 ≤ hi42 ∧ hi42 ≤ (G.fh 6)), fun G v wq => ∃ A44 c45, v = .slice A44 ((([(p_w.Key.drop 2)] : List Str) ++ (s_l1Split p_w.Val 44)).length) c45 ∧ OwnL wq (G.fl 7) (G.fh 7) 9 1 (RF e_Str) A44 ((([(p_w.Key.drop 2)] : List Str) ++ (s_l1Split p_w.Val 44)).length) c45 (([(p_w.Key.drop 2)] : List Str) ++ (s_l1Split p_w.Val 44)), fun G v wq => ∃ A44 c45, v = .agg #[.slice A44 ((([(p_w.Key.drop 2)] : List Str) ++ (s_l1Split p_w.Val 44)).length) c45] ∧ OwnL wq (G.fl 7) (G.fh 7) 9 1 (RF e_Str) A44 ((([(p_w.Key.drop 2)] : List Str) ++ (s_l1Split p_w.Val 44)).length) c45 (([(p_w.Key.drop 2)] : List Str) ++ (s_l1Split p_w.Val 44)), fun G v wq => v = .pointer (some ⟨(G.fl 9), 0, none⟩) ∧ Box wq (G.fl 9) 38 [.slice none 0 0] ∧ (G.fl 9) < (G.fh 9)]) Tryz.follows rfl rfl rfl rfl rfl rfl (fun _ _ _ _ _ h => h) (fun _ _ _ _ _ _ _ _ _ h => h.elim) (vgetG_kept ⟨(KeptG.det _), (KeptG.det _), (KeptG.det _), (by rintro i G v w w' K hn hh hj ⟨A38, hv, h0⟩ e; have d3 : G.dn 3 = true := hj; have u3 := Gh.ufl (lo := w.heap.size) (hi := w'.heap.size) d3 hn; have t3 := Gh.ufh (lo := w.heap.size) (hi := w'.heap.size) d3 hn; exact ⟨A38, hv, (by intro hd; simp only [u3, t3]; exact OwnL.chg gS (h0 (Gh.off hd).2) e (fun b hb hp => by exact hp.elim))⟩), (KeptG.det _), (KeptG.det _), (by rintro i G v w w' K hn hh hj ⟨A42, c42, lo42, hi42, hv, h0, h1, hr0⟩ e; have d6 : G.dn 6 = true := hj; have u6 := Gh.ufl (lo := w.heap.size) (hi := w'.heap.size) d6 hn; have t6 := Gh.ufh (lo := w.heap.size) (hi := w'.heap.size) d6 hn; exact ⟨A42, c42, lo42, hi42, hv, (by exact OwnL.chg gS h0 e (fun b hb hp => by exact hp.elim)), h1, (by simp only [u6, t6]; exact hr0)⟩), (by rintro i G v w w' K hn hh hj ⟨A44, c45, hv, h0⟩ e; have d7 : G.dn 7 = true := hj; have u7 := Gh.ufl (lo := w.heap.size) (hi := w'.heap.size) d7 hn; have t7 := Gh.ufh (lo := w.heap.size) (hi := w'.heap.size) d7 hn; exact ⟨A44, c45, hv, (by simp only [u7, t7]; exact OwnL.chg gS h0 e (fun b hb hp => by exact hp.elim))⟩), (by rintro i G v w w' K hn hh hj ⟨A44, c45, hv, h0⟩ e; have d7 : G.dn 7 = true := K.cl 8 7 hj rfl; have u7 := Gh.ufl (lo := w.heap.size) (hi := w'.heap.size) d7 hn; have t7 := Gh.ufh (lo := w.heap.size) (hi := w'.heap.size) d7 hn; exact ⟨A44, c45, hv, (by simp only [u7, t7]; exact OwnL.chg gS h0 e (fun b hb hp => by exact hp.elim))⟩), (by rintro i G v w w' K hn hh hj ⟨hv, h0, he0⟩ e; have d9 : G.dn 9 = true := hj; have u9 := Gh.ufl (lo := w.heap.size) (hi := w'.heap.size) d9 hn; have t9 := Gh.ufh (lo := w.heap.size) (hi := w'.heap.size) d9 hn; exact ⟨(by simp only [u9, t9]; exact hv), (by simp only [u9, t9]; exact Box.chg h0 e (fun hp => by exact hp.elim)), (by simp only [u9, t9]; exact he0)⟩), trivial⟩) ⟨?_, ?_, ?_, ?_, ?_, ?_, ?_, ?_, ?_, ?_, trivial⟩ ?_
  ·intro L51 w52 G50 hgk53
   have hE54 := hgk53.st.ex.ex (fun b h => h.elim (fun h => h.elim) (fun h => h))
   have hE54z := Ex.size hE54
   exact OpR.op' rfl (Yl.sameG (yl_fieldAddr fd66_0 rfl (hgk53.old 3 _ rfl rfl) kI))
  ·intro L57 w58 G56 hgk59
   have hE60 := hgk59.st.ex.ex (fun b h => h.elim (fun h => h.elim) (fun h => h))
   have hE60z := Ex.size hE60
   obtain ⟨_, hx61, rfl⟩ := hgk59.val 0 12 rfl rfl
   exact OpR.op' rfl (Yl.sameG (yl_load1 ty9 rfl hx61 (((Box.ex q28 hE60).cell 0).trans rfl) kI))
  ·intro L64 w65 G63 hgk66
   have hE67 := hgk66.st.ex.ex (fun b h => h.elim (fun h => h.elim) (fun h => h))
   have hE67z := Ex.size hE67
   obtain ⟨_, hx68, rfl⟩ := hgk66.val 1 13 rfl rfl
   exact OpR.op' rfl (Yl.sameG (yl_sslice_lo un9 (a := p_w.Key) (l := 2) rfl hx68 rfl (by omega) kI))
  ·intro L70 w71 G69 hgk72
   have hE73 := hgk72.st.ex.ex (fun b h => h.elim (fun h => h.elim) (fun h => h))
   have hE73z := Ex.size hE73
   obtain ⟨_, hx74, rfl⟩ := hgk72.val 2 14 rfl rfl
   refine OpR.op' rfl (yl_buildSlice (cs := [.string (bs ((p_w.Key.drop 2)))]) un23 ty9 (by decide) rfl (oc hx74 oz) (by kernel_rfl) ?_)
   intro b75 w76 hs77 hz78 hB79 hE80
   have hO81 : OwnL w76 b75 (b75 + 1) 9 1 (RF e_Str) (some ⟨b75, 0, none⟩) 1 1 ([(p_w.Key.drop 2)] : List Str) := OwnL.of_box (S := fun _ => False) hB79 (Nat.le_refl _) (Nat.lt_succ_self _) (EncL.cons (c := [.string (bs ((p_w.Key.drop 2)))]) rfl rfl EncL.nil) (Nat.le_of_ble_eq_true rfl) (fun h => h) (fun _ h => False.elim h)
   exact ⟨Chg.of_ex hE80, (some ⟨b75, 0, none⟩), rfl, fun _ => OwnL.more (lo' := w71.heap.size) (hi' := w76.heap.size) hO81 (by omega) (by omega)⟩
  ·intro L83 w84 G82 hgk85
   have hE86 := hgk85.st.ex.ex (fun b h => h.elim (fun h => h.elim) (fun h => h))
   have hE86z := Ex.size hE86
   exact OpR.op' rfl (Yl.sameG (yl_fieldAddr fd66_1 rfl (hgk85.old 3 _ rfl rfl) kI))
  ·intro L89 w90 G88 hgk91
   have hE92 := hgk91.st.ex.ex (fun b h => h.elim (fun h => h.elim) (fun h => h))
   have hE92z := Ex.size hE92
   obtain ⟨_, hx93, rfl⟩ := hgk91.val 4 16 rfl rfl
   exact OpR.op' rfl (Yl.sameG (yl_load1 ty9 rfl hx93 (((Box.ex q28 hE92).cell 1).trans rfl) kI))
  ·intro L96 w97 G95 hgk98
   have hE99 := hgk98.st.ex.ex (fun b h => h.elim (fun h => h.elim) (fun h => h))
   have hE99z := Ex.size hE99
   obtain ⟨_, hx100, rfl⟩ := hgk98.val 5 17 rfl rfl
   refine OpR.op' rfl (yC en74 rfl (oc hx100 (oc rfl oz)) (Cal.mono (c_s_l1Split p_w.Val 44 o4.2) ?_))
   rintro v104 w101 ⟨A102, c102, lo102, hi102, rfl, h102, ho103, hrn106, hE105⟩
   exact ⟨Chg.of_ex hE105, A102, c102, lo102, hi102, rfl, h102, ho103, hrn106⟩
  ·intro L108 w109 G107 hgk110
   have hE111 := hgk110.st.ex.ex (fun b h => h.elim (fun h => h.elim) (fun h => h))
   have hE111z := Ex.size hE111
   obtain ⟨_, hx112, A38_113, rfl, h114⟩ := hgk110.val 3 15 rfl rfl
   have h114 := h114 hgk110.new
   obtain ⟨_, hx115, A42_116, c42_117, lo42_118, hi42_119, rfl, h120, h121, hrn122⟩ := hgk110.val 6 18 rfl rfl
   have hr123 := hgk110.st.rng 3 (hgk110.has 3 rfl)
   have hr124 := hgk110.st.rng 6 (hgk110.has 6 rfl)
   have hsp125 := hgk110.st.sep 3 6 (hgk110.has 3 rfl) (hgk110.has 6 rfl) rfl
   have hol126 : (s_l1Split p_w.Val 44).length ≤ 2147483648 := h121.1
   refine OpR.op' rfl (yl_appendF (lo := w109.heap.size) (xs := ([(p_w.Key.drop 2)] : List Str)) (ys := (s_l1Split p_w.Val 44)) gS un23 ty9 rfl (Nat.le_of_ble_eq_true rfl) rfl hx112 hx115 (by first | omega | (simp only [lN, toS_length]; omega)) (OwnL.rd gS h114) (OwnL.rd gS h120) (by first | omega | (simp only [lN, toS_length]; omega)) (by first | omega | (simp only [lN, toS_length]; omega)) (by first | omega | (simp only [lN, toS_length]; omega)) (Nat.le_refl _) (fun _ _ h => h) (fun _ _ h => h) ?_)
   intro A129 c130 w131 hO132 hE133 hrg134
   have hE133z := hE133.size
   exact ⟨Chg.of_ex hE133, A129, c130, rfl, OwnL.more (lo' := w109.heap.size) (hi' := w131.heap.size) hO132 (by omega) (by omega)⟩
  ·intro L136 w137 G135 hgk138
   have hE139 := hgk138.st.ex.ex (fun b h => h.elim (fun h => h.elim) (fun h => h))
   have hE139z := Ex.size hE139
   obtain ⟨_, hx140, A44_141, c45_142, rfl, h143⟩ := hgk138.val 7 19 rfl rfl
   have hr144 := hgk138.st.rng 7 (hgk138.has 7 rfl)
   exact OpR.op' rfl (Yl.sameG (yl_build (cs := [.slice A44_141 ((([(p_w.Key.drop 2)] : List Str) ++ (s_l1Split p_w.Val 44)).length) c45_142]) rfl (oc hx140 oz) (by kernel_rfl) ⟨fun _ _ => ⟨A44_141, c45_142, rfl, (OwnL.more (lo' := (G135.fl 7)) (hi' := (G135.fh 7)) h143 (by omega) (by omega))⟩, rfl⟩))
  ·intro L146 w147 G145 hgk148
   have hE149 := hgk148.st.ex.ex (fun b h => h.elim (fun h => h.elim) (fun h => h))
   have hE149z := Ex.size hE149
   refine OpR.op' rfl (yB ty38 (cs := [.slice none 0 0]) rfl rfl ?_)
   intro b150 w151 hs152 hz153 hB154 hE155
   subst hs152
   exact ⟨Chg.of_ex hE155, rfl, hB154, by rw [Gh.sfl, Gh.sfh]; omega⟩
  ·intro G156 L157 w158 hgp159
   have hE160 := hgp159.st.ex.ex (fun b h => h.elim (fun h => h.elim) (fun h => h))
   have hE160z := Ex.size hE160
   obtain ⟨_, hx164, A42_165, c42_166, lo42_167, hi42_168, rfl, h169, h170, hrn171⟩ := hgp159.val 6 18 rfl rfl
   obtain ⟨_, hx172, A44_173, c45_174, rfl, h175⟩ := hgp159.val 7 19 rfl rfl
   obtain ⟨_, hx176, A44_177, c45_178, rfl, h179⟩ := hgp159.val 8 20 rfl rfl
   obtain ⟨_, hx180, rfl, h181, he182⟩ := hgp159.val 9 6 rfl rfl
   have hr183 := hgp159.st.rng 6 (hgp159.has 6 rfl)
   have hr184 := hgp159.st.rng 7 (hgp159.has 7 rfl)
   have hr185 := hgp159.st.rng 8 (hgp159.has 8 rfl)
   have hr186 := hgp159.st.rng 9 (hgp159.has 9 rfl)
   have hsp187 := hgp159.st.ord 7 6 (hgp159.has 7 rfl) rfl
   have hsp188 := hgp159.st.ord 8 6 (hgp159.has 8 rfl) rfl
   have hsp189 := hgp159.st.sep 6 9 (hgp159.has 6 rfl) (hgp159.has 9 rfl) rfl
   have hsp190 := hgp159.st.ord 8 7 (hgp159.has 8 rfl) rfl
   have hsp191 := hgp159.st.sep 7 9 (hgp159.has 7 rfl) (hgp159.has 9 rfl) rfl
   have hsp192 := hgp159.st.sep 8 9 (hgp159.has 8 rfl) (hgp159.has 9 rfl) rfl
   refine SeqR.u rfl rfl (yl_store (vs := [.slice A44_177 ((([(p_w.Key.drop 2)] : List Str) ++ (s_l1Split p_w.Val 44)).length) c45_178]) ty38 rfl hx180 hx176 rfl rfl rfl h181 (Nat.le_of_ble_eq_true rfl) ?_)
   intro w193 hB194 hO195
   have hB194 : Box w193 (G156.fl 9) 38 [.slice A44_177 ((([(p_w.Key.drop 2)] : List Str) ++ (s_l1Split p_w.Val 44)).length) c45_178] := hB194
   have hO195z := hO195.size
   refine dn (CW.sub (Sub.cons (d := 2) (hgp159.old 2 _ rfl rfl) (Sub.cons (d := 3) (hgp159.old 3 _ rfl rfl) (Sub.cons (d := 4) (hgp159.old 4 _ rfl rfl) (Sub.cons (d := 6) hx180 (Sub.nil _))))) (CW.seq ?_))
   have hol212 : (s_l1Split p_w.Val 44).length ≤ 2147483648 := h170.1
   refine bcase (s_l25Good p_t (⟨(([(p_w.Key.drop 2)] : List Str) ++ (s_l1Split p_w.Val 44))⟩ : DRow)) (fun hb214 => ?_) (fun hb214 => ?_)
   ·obtain ⟨hb214p0, hb214p1⟩ := f_s_l25Good hb214
    have q218 := Box.only (Box.ex (Box.ex (Box.ex hB14 hE21) hE27) hE160) hO195 (by omega)
    have q223 := RdS.only gS (RdS.ex gS (RdS.ex gS (RdS.ex gS (RdS.ex gS h1 hE15) hE21) hE27) hE160) hO195 (by simp only [Iv]; omega)
    have q228 := RdS.only gI (RdS.ex gI (RdS.ex gI (RdS.ex gI (RdS.ex gI h2 hE15) hE21) hE27) hE160) hO195 (by simp only [Iv]; omega)
    have q230 := OwnL.only gS h179 hO195 (by omega)
    have hol231 : (s_l1Split p_w.Val 44).length ≤ 2147483648 := h170.1
    have hol234 : (s_l1Split p_w.Val 44).length ≤ 2147483648 := h170.1
    have q237 := Box.only (Box.ex q28 hE160) hO195 (by omega)
    refine CW.drawsG 13 (fun G b => G.dn 11 = true ∧ InR [(b22, b22 + 1)] b) (fun i G b => (i = 11 ∧ b22 ≤ b ∧ b < b22 + 1)) (vgetG [DetG (.agg #[.slice A44_177 ((([(p_w.Key.drop 2)] : List Str) ++ (s_l1Split p_w.Val 44)).length) c45_178]), DetG (.agg #[.string (bs (p_t.Name)), .slice A1 p_t.Cols.length c1, .slice A2 p_t.Idxs.length c2]), DetG (.agg #[.slice A44_177 ((([(p_w.Key.drop 2)] : List Str) ++ (s_l1Split p_w.Val 44)).length) c45_178]), DetG (.bool ((s_l25Good p_t (⟨(([(p_w.Key.drop 2)] : List Str) ++ (s_l1Split p_w.Val 44))⟩ : DRow)))), DetG (.bool ((s_l25Good p_t (⟨(([(p_w.Key.drop 2)] : List Str) ++ (s_l1Split p_w.Val 44))⟩ : DRow)))), DetG (.agg #[.string (bs (p_t.Name)), .slice A1 p_t.Cols.length c1, .slice A2 p_t.Idxs.length c2]), DetG (.agg #[.slice A44_177 ((([(p_w.Key.drop 2)] : List Str) ++ (s_l1Split p_w.Val 44)).length) c45_178]), DetG (.agg #[.string (bs ((s_l25Write p_t (⟨(([(p_w.Key.drop 2)] : List Str) ++ (s_l1Split p_w.Val 44))⟩ : DRow)).Key)), .string (bs ((s_l25Write p_t (⟨(([(p_w.Key.drop 2)] : List Str) ++ (s_l1Split p_w.Val 44))⟩ : DRow)).Val)), .bool ((s_l25Write p_t (⟨(([(p_w.Key.drop 2)] : List Str) ++ (s_l1Split p_w.Val 44))⟩ : DRow)).Gone)]), DetG (.agg #[.string (bs (p_w.Key)), .string (bs (p_w.Val)), .bool (p_w.Gone)]), DetG (.bool (((((s_l25Write p_t (⟨(([(p_w.Key.drop 2)] : List Str) ++ (s_l1Split p_w.Val 44))⟩ : DRow)).Key) == p_w.Key) && ((((s_l25Write p_t (⟨(([(p_w.Key.drop 2)] : List Str) ++ (s_l1Split p_w.Val 44))⟩ : DRow)).Val) == p_w.Val) && (((s_l25Write p_t (⟨(([(p_w.Key.drop 2)] : List Str) ++ (s_l1Split p_w.Val 44))⟩ : DRow)).Gone) == p_w.Gone))))), DetG (.bool (((((s_l25Write p_t (⟨(([(p_w.Key.drop 2)] : List Str) ++ (s_l1Split p_w.Val 44))⟩ : DRow)).Key) == p_w.Key) && ((((s_l25Write p_t (⟨(([(p_w.Key.drop 2)] : List Str) ++ (s_l1Split p_w.Val 44))⟩ : DRow)).Val) == p_w.Val) && (((s_l25Write p_t (⟨(([(p_w.Key.drop 2)] : List Str) ++ (s_l1Split p_w.Val 44))⟩ : DRow)).Gone) == p_w.Gone))))), fun G v wq => Box wq b22 38 [.slice A44_177 ((([(p_w.Key.drop 2)] : List Str) ++ (s_l1Split p_w.Val 44)).length) c45_178], DetG (.bool (((((s_l25Write p_t (⟨(([(p_w.Key.drop 2)] : List Str) ++ (s_l1Split p_w.Val 44))⟩ : DRow)).Key) == p_w.Key) && ((((s_l25Write p_t (⟨(([(p_w.Key.drop 2)] : List Str) ++ (s_l1Split p_w.Val 44))⟩ : DRow)).Val) == p_w.Val) && (((s_l25Write p_t (⟨(([(p_w.Key.drop 2)] : List Str) ++ (s_l1Split p_w.Val 44))⟩ : DRow)).Gone) == p_w.Gone)))))]) Tryz.follows rfl rfl rfl rfl rfl rfl (fun _ _ _ _ _ h => ⟨Gh.udn h.1, h.2⟩) (fun i G w lo hi b K hn hh hp => by exact (match hp with | ⟨e, q1, q2⟩ => by subst e; exact .inl ⟨Gh.sdn, .inl ⟨q1, q2⟩⟩)) (vgetG_kept ⟨(KeptG.det _), (KeptG.det _), (KeptG.det _), (KeptG.det _), (KeptG.det _), (KeptG.det _), (KeptG.det _), (KeptG.det _), (KeptG.det _), (KeptG.det _), (KeptG.det _), (by rintro i G v w w' K hn hh hj h0 e; exact (by exact Box.chg h0 e (fun hp => by obtain ⟨rfl, q1, q2⟩ := hp; rw [hj] at hn; cases hn))), (KeptG.det _), trivial⟩) ⟨?_, ?_, ?_, ?_, ?_, ?_, ?_, ?_, ?_, ?_, ?_, ?_, ?_, trivial⟩ ?_
    ·intro L240 w241 G239 hgk242
     have hE243 := hgk242.st.ex.ex (fun b h => h.elim (fun h => hgk242.no rfl h) (fun h => h))
     have hE243z := Ex.size hE243
     exact OpR.op' rfl (Yl.sameG (yl_loadN ty38 rfl (hgk242.old 6 _ rfl rfl) ((Box.ex hB194 hE243).cells (n := 1) rfl) rfl kI))
    ·intro L247 w248 G246 hgk249
     have hE250 := hgk249.st.ex.ex (fun b h => h.elim (fun h => hgk249.no rfl h) (fun h => h))
     have hE250z := Ex.size hE250
     exact OpR.op' rfl (Yl.sameG (yl_loadN ty26 rfl (hgk249.old 2 _ rfl rfl) ((Box.ex q218 hE250).cells (n := 3) rfl) rfl kI))
    ·intro L254 w255 G253 hgk256
     have hE257 := hgk256.st.ex.ex (fun b h => h.elim (fun h => hgk256.no rfl h) (fun h => h))
     have hE257z := Ex.size hE257
     exact OpR.op' rfl (Yl.sameG (yl_loadN ty38 rfl (hgk256.old 6 _ rfl rfl) ((Box.ex hB194 hE257).cells (n := 1) rfl) rfl kI))
    ·intro L261 w262 G260 hgk263
     have hE264 := hgk263.st.ex.ex (fun b h => h.elim (fun h => hgk263.no rfl h) (fun h => h))
     have hE264z := Ex.size hE264
     obtain ⟨_, hx265, rfl⟩ := hgk263.val 1 22 rfl rfl
     obtain ⟨_, hx266, rfl⟩ := hgk263.val 2 23 rfl rfl
     have hol271 : (s_l1Split p_w.Val 44).length ≤ 2147483648 := h170.1
     refine OpR.op' rfl (yC en88 rfl (oc hx265 (oc hx266 oz)) (Cal.mono (c_s_l25Good p_t (⟨(([(p_w.Key.drop 2)] : List Str) ++ (s_l1Split p_w.Val 44))⟩ : DRow) (RdS.up (RdS.ex gS q223 hE264) gS) (RdS.up (RdS.ex gI q228 hE264) gI) (RdS.up (OwnL.rd gS (OwnL.ex gS q230 hE264)) gS) o3 (okL.mk (xs := (([(p_w.Key.drop 2)] : List Str) ++ (s_l1Split p_w.Val 44))) (by first | omega | (simp only [lN, toS_length]; omega)) (okE.append ((okL.mk (Nat.le_of_ble_eq_true rfl) (okE.cons (okS.drop o4.1 _) okE.nil))).2 (h170).2))) ?_))
     rintro v273 w272 ⟨rfl, hE274⟩
     exact ⟨Chg.of_ex hE274, rfl⟩
    ·intro L276 w277 G275 hgk278
     have hE279 := hgk278.st.ex.ex (fun b h => h.elim (fun h => hgk278.no rfl h) (fun h => h))
     have hE279z := Ex.size hE279
     obtain ⟨_, hx280, rfl⟩ := hgk278.val 3 24 rfl rfl
     exact OpR.op' rfl (Yl.sameG (yM rfl hx280 kI))
    ·intro L282 w283 G281 hgk284
     have hE285 := hgk284.st.ex.ex (fun b h => h.elim (fun h => hgk284.no rfl h) (fun h => h))
     have hE285z := Ex.size hE285
     obtain ⟨_, hx286, rfl⟩ := hgk284.val 4 25 rfl rfl
     exact OpR.want rfl rfl hx286 hb214 (Yl.sameG (yl_loadN ty26 rfl (hgk284.old 2 _ rfl rfl) ((Box.ex q218 hE285).cells (n := 3) rfl) rfl kI))
    ·intro L290 w291 G289 hgk292
     have hE293 := hgk292.st.ex.ex (fun b h => h.elim (fun h => hgk292.no rfl h) (fun h => h))
     have hE293z := Ex.size hE293
     obtain ⟨_, hx294, rfl⟩ := hgk292.val 4 25 rfl rfl
     exact OpR.want rfl rfl hx294 hb214 (Yl.sameG (yl_loadN ty38 rfl (hgk292.old 6 _ rfl rfl) ((Box.ex hB194 hE293).cells (n := 1) rfl) rfl kI))
    ·intro L298 w299 G297 hgk300
     have hE301 := hgk300.st.ex.ex (fun b h => h.elim (fun h => hgk300.no rfl h) (fun h => h))
     have hE301z := Ex.size hE301
     obtain ⟨_, hx302, rfl⟩ := hgk300.val 4 25 rfl rfl
     obtain ⟨_, hx303, rfl⟩ := hgk300.val 5 26 rfl rfl
     obtain ⟨_, hx304, rfl⟩ := hgk300.val 6 27 rfl rfl
     have hol309 : (s_l1Split p_w.Val 44).length ≤ 2147483648 := h170.1
     refine OpR.want rfl rfl hx302 hb214 (yC en68 rfl (oc hx303 (oc hx304 oz)) (Cal.mono (c_s_l25Write p_t (⟨(([(p_w.Key.drop 2)] : List Str) ++ (s_l1Split p_w.Val 44))⟩ : DRow) (RdS.up (RdS.ex gS q223 hE301) gS) (RdS.up (RdS.ex gI q228 hE301) gI) (RdS.up (OwnL.rd gS (OwnL.ex gS q230 hE301)) gS) o3 (okL.mk (xs := (([(p_w.Key.drop 2)] : List Str) ++ (s_l1Split p_w.Val 44))) (by first | omega | (simp only [lN, toS_length]; omega)) (okE.append ((okL.mk (Nat.le_of_ble_eq_true rfl) (okE.cons (okS.drop o4.1 _) okE.nil))).2 (h170).2)) (by first | omega | assumption | (simp only [wI] at *; omega) | (simp only [lN]; omega))) ?_))
     rintro v311 w310 ⟨rfl, hE312⟩
     exact ⟨Chg.of_ex hE312, rfl⟩
    ·intro L314 w315 G313 hgk316
     have hE317 : Chg (fun b => InR [(b22, b22 + 1)] b ∨ w193.heap.size ≤ b) w193 w315 := hgk316.st.ex.imp (fun b _ h => h.imp (fun h => h.2) (fun h => h))
     have hE317z := Chg.size hE317
     obtain ⟨_, hx318, rfl⟩ := hgk316.val 4 25 rfl rfl
     exact OpR.want rfl rfl hx318 hb214 (Yl.sameG (yl_loadN ty66 rfl (hgk316.old 3 _ rfl rfl) ((Box.chg q237 hE317 (by have := Box.lt q237; simp only [InR, or_false]; omega)).cells (n := 3) rfl) rfl kI))
    ·intro L322 w323 G321 hgk324
     have hE325 : Chg (fun b => InR [(b22, b22 + 1)] b ∨ w193.heap.size ≤ b) w193 w323 := hgk324.st.ex.imp (fun b _ h => h.imp (fun h => h.2) (fun h => h))
     have hE325z := Chg.size hE325
     obtain ⟨_, hx326, rfl⟩ := hgk324.val 4 25 rfl rfl
     obtain ⟨_, hx327, rfl⟩ := hgk324.val 7 28 rfl rfl
     obtain ⟨_, hx328, rfl⟩ := hgk324.val 8 29 rfl rfl
     exact OpR.want rfl rfl hx326 hb214 (Yl.sameG (yl_aeql (xs := [.string (bs ((s_l25Write p_t (⟨(([(p_w.Key.drop 2)] : List Str) ++ (s_l1Split p_w.Val 44))⟩ : DRow)).Key)), .string (bs ((s_l25Write p_t (⟨(([(p_w.Key.drop 2)] : List Str) ++ (s_l1Split p_w.Val 44))⟩ : DRow)).Val)), .bool ((s_l25Write p_t (⟨(([(p_w.Key.drop 2)] : List Str) ++ (s_l1Split p_w.Val 44))⟩ : DRow)).Gone)]) (ys := [.string (bs (p_w.Key)), .string (bs (p_w.Val)), .bool (p_w.Gone)]) Tryz.ae66 rfl hx327 hx328 kI))
    ·intro L330 w331 G329 hgk332
     have hE333 : Chg (fun b => InR [(b22, b22 + 1)] b ∨ w193.heap.size ≤ b) w193 w331 := hgk332.st.ex.imp (fun b _ h => h.imp (fun h => h.2) (fun h => h))
     have hE333z := Chg.size hE333
     obtain ⟨_, hx334, rfl⟩ := hgk332.val 9 30 rfl rfl
     obtain ⟨_, hx335, rfl⟩ := hgk332.val 4 25 rfl rfl
     exact OpR.op' rfl (Yl.sameG (yl_pick_t rfl hx335 hb214 hx334 kI))
    ·intro L337 w338 G336 hgk339
     have hE340 := hgk339.st.ex.ex (fun b h => h.elim (fun h => hgk339.nw h) (fun h => h))
     have hE340z := Ex.size hE340
     obtain ⟨_, hx342, rfl⟩ := hgk339.val 0 21 rfl rfl
     refine OpR.op' rfl (yl_store (vs := [.slice A44_177 ((([(p_w.Key.drop 2)] : List Str) ++ (s_l1Split p_w.Val 44)).length) c45_178]) ty38 rfl (hgk339.old 4 _ rfl rfl) hx342 rfl rfl rfl (Box.ex (Box.only (Box.ex hB26 hE160) hO195 (by omega)) hE340) (Nat.le_of_ble_eq_true rfl) ?_)
     intro w346 hB347 hO348
     have hO348z := hO348.size
     exact ⟨Chg.of_only hO348 (⟨rfl, Nat.le_refl _, by omega⟩), hB347⟩
    ·intro L350 w351 G349 hgk352
     have hE353 : Chg (fun b => InR [(b22, b22 + 1)] b ∨ w193.heap.size ≤ b) w193 w351 := hgk352.st.ex.imp (fun b _ h => h.imp (fun h => h.2) (fun h => h))
     have hE353z := Chg.size hE353
     obtain ⟨_, hx354, rfl⟩ := hgk352.val 10 31 rfl rfl
     exact OpR.op' rfl (Yl.sameG (yA rfl hx354 kI))
    ·intro G355 L356 w357 hgp358
     have hE359 : Chg (fun b => InR [(b22, b22 + 1)] b ∨ w193.heap.size ≤ b) w193 w357 := hgp358.st.ex.imp (fun b _ h => h.imp (fun h => h.2) (fun h => h))
     have hE359z := Chg.size hE359
     obtain ⟨_, h361⟩ := hgp358.fact 11 rfl
     obtain ⟨_, hx362, rfl⟩ := hgp358.val 12 5 rfl rfl
     have hr363 := hgp358.st.rng 11 (hgp358.has 11 rfl)
     refine dn (CW.sub (Sub.cons (d := 4) (hgp358.old 4 _ rfl rfl) (Sub.cons (d := 5) hx362 (Sub.nil _))) (CW.ret (rr rfl (.cons ⟨_, rfl, run_loadN ty38 (cs := [.slice A44_177 ((([(p_w.Key.drop 2)] : List Str) ++ (s_l1Split p_w.Val 44)).length) c45_178]) rfl (h361.cells (n := 1) rfl)⟩ (.cons rfl .nil)) ?_)))
     have hM364 : (s_l25Read p_t p_w) = (((⟨(([(p_w.Key.drop 2)] : List Str) ++ (s_l1Split p_w.Val 44))⟩ : DRow), ((((s_l25Write p_t (⟨(([(p_w.Key.drop 2)] : List Str) ++ (s_l1Split p_w.Val 44))⟩ : DRow)).Key) == p_w.Key) && ((((s_l25Write p_t (⟨(([(p_w.Key.drop 2)] : List Str) ++ (s_l1Split p_w.Val 44))⟩ : DRow)).Val) == p_w.Val) && (((s_l25Write p_t (⟨(([(p_w.Key.drop 2)] : List Str) ++ (s_l1Split p_w.Val 44))⟩ : DRow)).Gone) == p_w.Gone))))) := by simp only [s_l25Read, hb29, hb214, cL]
     have hol366 : (s_l1Split p_w.Val 44).length ≤ 2147483648 := h170.1
     rw [hM364]
     exact ⟨A44_177, c45_178, (G156.fl 7), (G156.fh 7), rfl, (OwnL.chg gS q230 hE359 (fun k hl hk => by simp only [InR, or_false] at hk; omega)), (okL.mk (xs := (([(p_w.Key.drop 2)] : List Str) ++ (s_l1Split p_w.Val 44))) (by first | omega | (simp only [lN, toS_length]; omega)) (okE.append ((okL.mk (Nat.le_of_ble_eq_true rfl) (okE.cons (okS.drop o4.1 _) okE.nil))).2 (h170).2)), (by omega), (Ex.chg (Below.only (Ex.trans (Ex.trans (Ex.trans (Ex.trans (Ex.refl w) hE15) hE21) hE27) hE160) hO195 (by omega)) hE359 (fun k hk => by simp only [InR, or_false] at hk; omega))⟩
   ·have q388 := OwnL.only gS h179 hO195 (by omega)
    have hol389 : (s_l1Split p_w.Val 44).length ≤ 2147483648 := h170.1
    refine CW.drawsG 13 (fun G b => G.dn 11 = true ∧ InR [(b22, b22 + 1)] b) (fun i G b => (i = 11 ∧ b22 ≤ b ∧ b < b22 + 1)) (vgetG [DetG (.agg #[.slice A44_177 ((([(p_w.Key.drop 2)] : List Str) ++ (s_l1Split p_w.Val 44)).length) c45_178]), DetG (.agg #[.string (bs (p_t.Name)), .slice A1 p_t.Cols.length c1, .slice A2 p_t.Idxs.length c2]), DetG (.agg #[.slice A44_177 ((([(p_w.Key.drop 2)] : List Str) ++ (s_l1Split p_w.Val 44)).length) c45_178]), DetG (.bool ((s_l25Good p_t (⟨(([(p_w.Key.drop 2)] : List Str) ++ (s_l1Split p_w.Val 44))⟩ : DRow)))), DetG (.bool ((s_l25Good p_t (⟨(([(p_w.Key.drop 2)] : List Str) ++ (s_l1Split p_w.Val 44))⟩ : DRow)))), DetG (undef), DetG (undef), DetG (undef), DetG (undef), DetG (undef), DetG (.bool (false)), fun G v wq => Box wq b22 38 [.slice A44_177 ((([(p_w.Key.drop 2)] : List Str) ++ (s_l1Split p_w.Val 44)).length) c45_178], DetG (.bool (false))]) Tryz.follows rfl rfl rfl rfl rfl rfl (fun _ _ _ _ _ h => ⟨Gh.udn h.1, h.2⟩) (fun i G w lo hi b K hn hh hp => by exact (match hp with | ⟨e, q1, q2⟩ => by subst e; exact .inl ⟨Gh.sdn, .inl ⟨q1, q2⟩⟩)) (vgetG_kept ⟨(KeptG.det _), (KeptG.det _), (KeptG.det _), (KeptG.det _), (KeptG.det _), (KeptG.det _), (KeptG.det _), (KeptG.det _), (KeptG.det _), (KeptG.det _), (KeptG.det _), (by rintro i G v w w' K hn hh hj h0 e; exact (by exact Box.chg h0 e (fun hp => by obtain ⟨rfl, q1, q2⟩ := hp; rw [hj] at hn; cases hn))), (KeptG.det _), trivial⟩) ⟨?_, ?_, ?_, ?_, ?_, ?_, ?_, ?_, ?_, ?_, ?_, ?_, ?_, trivial⟩ ?_
    ·intro L393 w394 G392 hgk395
     have hE396 := hgk395.st.ex.ex (fun b h => h.elim (fun h => hgk395.no rfl h) (fun h => h))
     have hE396z := Ex.size hE396
     exact OpR.op' rfl (Yl.sameG (yl_loadN ty38 rfl (hgk395.old 6 _ rfl rfl) ((Box.ex hB194 hE396).cells (n := 1) rfl) rfl kI))
    ·intro L400 w401 G399 hgk402
     have hE403 := hgk402.st.ex.ex (fun b h => h.elim (fun h => hgk402.no rfl h) (fun h => h))
     have hE403z := Ex.size hE403
     exact OpR.op' rfl (Yl.sameG (yl_loadN ty26 rfl (hgk402.old 2 _ rfl rfl) ((Box.ex (Box.only (Box.ex (Box.ex (Box.ex hB14 hE21) hE27) hE160) hO195 (by omega)) hE403).cells (n := 3) rfl) rfl kI))
    ·intro L407 w408 G406 hgk409
     have hE410 := hgk409.st.ex.ex (fun b h => h.elim (fun h => hgk409.no rfl h) (fun h => h))
     have hE410z := Ex.size hE410
     exact OpR.op' rfl (Yl.sameG (yl_loadN ty38 rfl (hgk409.old 6 _ rfl rfl) ((Box.ex hB194 hE410).cells (n := 1) rfl) rfl kI))
    ·intro L414 w415 G413 hgk416
     have hE417 := hgk416.st.ex.ex (fun b h => h.elim (fun h => hgk416.no rfl h) (fun h => h))
     have hE417z := Ex.size hE417
     obtain ⟨_, hx418, rfl⟩ := hgk416.val 1 22 rfl rfl
     obtain ⟨_, hx419, rfl⟩ := hgk416.val 2 23 rfl rfl
     have hol424 : (s_l1Split p_w.Val 44).length ≤ 2147483648 := h170.1
     refine OpR.op' rfl (yC en88 rfl (oc hx418 (oc hx419 oz)) (Cal.mono (c_s_l25Good p_t (⟨(([(p_w.Key.drop 2)] : List Str) ++ (s_l1Split p_w.Val 44))⟩ : DRow) (RdS.up (RdS.ex gS (RdS.only gS (RdS.ex gS (RdS.ex gS (RdS.ex gS (RdS.ex gS h1 hE15) hE21) hE27) hE160) hO195 (by simp only [Iv]; omega)) hE417) gS) (RdS.up (RdS.ex gI (RdS.only gI (RdS.ex gI (RdS.ex gI (RdS.ex gI (RdS.ex gI h2 hE15) hE21) hE27) hE160) hO195 (by simp only [Iv]; omega)) hE417) gI) (RdS.up (OwnL.rd gS (OwnL.ex gS q388 hE417)) gS) o3 (okL.mk (xs := (([(p_w.Key.drop 2)] : List Str) ++ (s_l1Split p_w.Val 44))) (by first | omega | (simp only [lN, toS_length]; omega)) (okE.append ((okL.mk (Nat.le_of_ble_eq_true rfl) (okE.cons (okS.drop o4.1 _) okE.nil))).2 (h170).2))) ?_))
     rintro v426 w425 ⟨rfl, hE427⟩
     exact ⟨Chg.of_ex hE427, rfl⟩
    ·intro L429 w430 G428 hgk431
     have hE432 := hgk431.st.ex.ex (fun b h => h.elim (fun h => hgk431.no rfl h) (fun h => h))
     have hE432z := Ex.size hE432
     obtain ⟨_, hx433, rfl⟩ := hgk431.val 3 24 rfl rfl
     exact OpR.op' rfl (Yl.sameG (yM rfl hx433 kI))
    ·intro L435 w436 G434 hgk437
     have hE438 := hgk437.st.ex.ex (fun b h => h.elim (fun h => hgk437.no rfl h) (fun h => h))
     have hE438z := Ex.size hE438
     obtain ⟨_, hx439, rfl⟩ := hgk437.val 4 25 rfl rfl
     exact OpR.skip rfl rfl hx439 hb214 ⟨Chg.refl _ _, rfl⟩
    ·intro L441 w442 G440 hgk443
     have hE444 := hgk443.st.ex.ex (fun b h => h.elim (fun h => hgk443.no rfl h) (fun h => h))
     have hE444z := Ex.size hE444
     obtain ⟨_, hx445, rfl⟩ := hgk443.val 4 25 rfl rfl
     exact OpR.skip rfl rfl hx445 hb214 ⟨Chg.refl _ _, rfl⟩
    ·intro L447 w448 G446 hgk449
     have hE450 := hgk449.st.ex.ex (fun b h => h.elim (fun h => hgk449.no rfl h) (fun h => h))
     have hE450z := Ex.size hE450
     obtain ⟨_, hx451, rfl⟩ := hgk449.val 4 25 rfl rfl
     exact OpR.skip rfl rfl hx451 hb214 ⟨Chg.refl _ _, rfl⟩
    ·intro L453 w454 G452 hgk455
     have hE456 : Chg (fun b => InR [(b22, b22 + 1)] b ∨ w193.heap.size ≤ b) w193 w454 := hgk455.st.ex.imp (fun b _ h => h.imp (fun h => h.2) (fun h => h))
     have hE456z := Chg.size hE456
     obtain ⟨_, hx457, rfl⟩ := hgk455.val 4 25 rfl rfl
     exact OpR.skip rfl rfl hx457 hb214 ⟨Chg.refl _ _, rfl⟩
    ·intro L459 w460 G458 hgk461
     have hE462 : Chg (fun b => InR [(b22, b22 + 1)] b ∨ w193.heap.size ≤ b) w193 w460 := hgk461.st.ex.imp (fun b _ h => h.imp (fun h => h.2) (fun h => h))
     have hE462z := Chg.size hE462
     obtain ⟨_, hx463, rfl⟩ := hgk461.val 4 25 rfl rfl
     exact OpR.skip rfl rfl hx463 hb214 ⟨Chg.refl _ _, rfl⟩
    ·intro L465 w466 G464 hgk467
     have hE468 : Chg (fun b => InR [(b22, b22 + 1)] b ∨ w193.heap.size ≤ b) w193 w466 := hgk467.st.ex.imp (fun b _ h => h.imp (fun h => h.2) (fun h => h))
     have hE468z := Chg.size hE468
     obtain ⟨_, hx469, rfl⟩ := hgk467.val 9 30 rfl rfl
     obtain ⟨_, hx470, rfl⟩ := hgk467.val 4 25 rfl rfl
     exact OpR.op' rfl (Yl.sameG (yl_pick_f rfl hx470 hb214 rfl kI))
    ·intro L472 w473 G471 hgk474
     have hE475 := hgk474.st.ex.ex (fun b h => h.elim (fun h => hgk474.nw h) (fun h => h))
     have hE475z := Ex.size hE475
     obtain ⟨_, hx477, rfl⟩ := hgk474.val 0 21 rfl rfl
     refine OpR.op' rfl (yl_store (vs := [.slice A44_177 ((([(p_w.Key.drop 2)] : List Str) ++ (s_l1Split p_w.Val 44)).length) c45_178]) ty38 rfl (hgk474.old 4 _ rfl rfl) hx477 rfl rfl rfl (Box.ex (Box.only (Box.ex hB26 hE160) hO195 (by omega)) hE475) (Nat.le_of_ble_eq_true rfl) ?_)
     intro w481 hB482 hO483
     have hO483z := hO483.size
     exact ⟨Chg.of_only hO483 (⟨rfl, Nat.le_refl _, by omega⟩), hB482⟩
    ·intro L485 w486 G484 hgk487
     have hE488 : Chg (fun b => InR [(b22, b22 + 1)] b ∨ w193.heap.size ≤ b) w193 w486 := hgk487.st.ex.imp (fun b _ h => h.imp (fun h => h.2) (fun h => h))
     have hE488z := Chg.size hE488
     obtain ⟨_, hx489, rfl⟩ := hgk487.val 10 31 rfl rfl
     exact OpR.op' rfl (Yl.sameG (yA rfl hx489 kI))
    ·intro G490 L491 w492 hgp493
     have hE494 : Chg (fun b => InR [(b22, b22 + 1)] b ∨ w193.heap.size ≤ b) w193 w492 := hgp493.st.ex.imp (fun b _ h => h.imp (fun h => h.2) (fun h => h))
     have hE494z := Chg.size hE494
     obtain ⟨_, h496⟩ := hgp493.fact 11 rfl
     obtain ⟨_, hx497, rfl⟩ := hgp493.val 12 5 rfl rfl
     have hr498 := hgp493.st.rng 11 (hgp493.has 11 rfl)
     refine dn (CW.sub (Sub.cons (d := 4) (hgp493.old 4 _ rfl rfl) (Sub.cons (d := 5) hx497 (Sub.nil _))) (CW.ret (rr rfl (.cons ⟨_, rfl, run_loadN ty38 (cs := [.slice A44_177 ((([(p_w.Key.drop 2)] : List Str) ++ (s_l1Split p_w.Val 44)).length) c45_178]) rfl (h496.cells (n := 1) rfl)⟩ (.cons rfl .nil)) ?_)))
     have hM499 : (s_l25Read p_t p_w) = (((⟨(([(p_w.Key.drop 2)] : List Str) ++ (s_l1Split p_w.Val 44))⟩ : DRow), false)) := by simp only [s_l25Read, hb29, hb214, cL]
     have hol501 : (s_l1Split p_w.Val 44).length ≤ 2147483648 := h170.1
     rw [hM499]
     exact ⟨A44_177, c45_178, (G156.fl 7), (G156.fh 7), rfl, (OwnL.chg gS q388 hE494 (fun k hl hk => by simp only [InR, or_false] at hk; omega)), (okL.mk (xs := (([(p_w.Key.drop 2)] : List Str) ++ (s_l1Split p_w.Val 44))) (by first | omega | (simp only [lN, toS_length]; omega)) (okE.append ((okL.mk (Nat.le_of_ble_eq_true rfl) (okE.cons (okS.drop o4.1 _) okE.nil))).2 (h170).2)), (by omega), (Ex.chg (Below.only (Ex.trans (Ex.trans (Ex.trans (Ex.trans (Ex.refl w) hE15) hE21) hE27) hE160) hO195 (by omega)) hE494 (fun k hk => by simp only [InR, or_false] at hk; omega))⟩
theorem c_s_l25Rows {A1 : Option Addr} {c1 : Nat} {A2 : Option Addr} {c2 : Nat} {A4 : Option Addr} {c4 : Nat} {w : World} (p_t : DTable) (ps : List DWrite) (h1 : RdS w (Iv 0 w.heap.size) (RF e_Str) 1 A1 p_t.Cols.length c1 p_t.Cols) (h2 : RdS w (Iv 0 w.heap.size) (RF e_Idx) 3 A2 p_t.Idxs.length c2 p_t.Idxs) (h4 : RdS w (Iv 0 w.heap.size) (RF e_Write) 3 A4 ps.length c4 ps) (o3 : ok_Table p_t) (o5 : (okL ok_Write) ps) : Cal Tryz.prog 35 #[.agg #[.string (bs (p_t.Name)), .slice A1 p_t.Cols.length c1, .slice A2 p_t.Idxs.length c2], .slice A4 ps.length c4] w fun v w' => ∃ A_1 c_1 lo_1 hi_1, v = .slice A_1 ((s_l25Rows p_t ps).length) c_1 ∧ OwnD w' lo_1 hi_1 38 1 RO_Row A_1 ((s_l25Rows p_t ps).length) c_1 (s_l25Rows p_t ps) ∧ (okL ok_Row) (s_l25Rows p_t ps) ∧ (w.heap.size ≤ lo_1 ∧ lo_1 ≤ hi_1 ∧ hi_1 ≤ w'.heap.size) ∧ Ex w w' := by
 have hol6 : p_t.Name.length ≤ 1073741824 := o3.1
 have hol7 := o3.2.1.1
 have hol8 := o3.2.2.1
 have hol9 := o5.1
 refine Cal.of func35 rfl ntmps35 rfl (CW.seq (CW.region (sd rfl (yl_box rfl rfl rfl ?_))))
 intro b10 w11 hs12 hz13 hB14 hE15
 refine sd rfl (yA rfl rfl (dn (CW.seq (CW.region (sd rfl (yA rfl rfl (dn (CW.seq ?_))))))))
 refine CW.seq (CW.region (sd rfl (yM rfl rfl (sd rfl (yL un27 rfl rfl (sd rfl (yM rfl rfl (dn (CW.block (CW.loop (fun m102 L103 w104 => ∃ (k16 : Nat) (x98 : List DRow) (A99 : Option Addr) (c100 : Nat) (u101 : Nat), m102 = ps.length - k16 ∧ k16 ≤ ps.length ∧ w11.heap.size ≤ w104.heap.size ∧ lkp L103 2 = some (.pointer (some ⟨b10, 0, none⟩)) ∧ lkp L103 5 = some (.slice A99 x98.length c100) ∧ lkp L103 10 = some (.slice A4 ps.length c4) ∧ lkp L103 11 = some (.int .i64 ((ps.length : Int))) ∧ lkp L103 12 = some (.int .i64 ((k16 : Int))) ∧ Box w104 b10 26 [.string (bs (p_t.Name)), .slice A1 p_t.Cols.length c1, .slice A2 p_t.Idxs.length c2] ∧ RdS w104 (Iv 0 w.heap.size) (RF e_Str) 1 A1 p_t.Cols.length c1 p_t.Cols ∧ RdS w104 (Iv 0 w.heap.size) (RF e_Idx) 3 A2 p_t.Idxs.length c2 p_t.Idxs ∧ OwnD w104 w11.heap.size u101 38 1 RO_Row A99 x98.length c100 x98 ∧ RdS w104 (Iv 0 w.heap.size) (RF e_Write) 3 A4 ps.length c4 ps ∧ Ex w w104 ∧ (w11.heap.size ≤ u101 ∧ u101 ≤ w104.heap.size) ∧ x98.length ≤ 0 + 1 * (k16 - 0) ∧ (∀ y ∈ x98, ok_Row y) ∧ loopM (B_s_l25Rows_0 p_t ps) (ps.length - k16) k16 (x98) = loopM (B_s_l25Rows_0 p_t ps) (ps.length - 0) 0 (([] : List DRow))) (ps.length - 0) ?_ ?_))))))))))
 ·exact ⟨0, ([] : List DRow), none, 0, w11.heap.size, rfl, (by omega), Nat.le_refl _, rfl, rfl, rfl, rfl, rfl, hB14, (RdS.ex gS h1 hE15), (RdS.ex gI h2 hE15), (OwnD.nil w11 w11.heap.size w11.heap.size 38 1 RO_Row), (RdS.ex gW h4 hE15), (Ex.trans (Ex.refl w) hE15), (by omega), (by first | (simp; done) | (first | omega | (simp only [lN, toS_length]; omega))), okE.nil, rfl⟩
 ·rintro m109 L110 w111 ⟨k16, x98, A99, c100, u101, rfl, hk112, hsz114, hl115, hl116, hl117, hl118, hl119, hf120, hf121, hf122, hf123, hf124, hf125, hu126, hln127, hok128, hI113⟩
  refine CW.sub (Sub.cons hl115 (Sub.cons hl116 (Sub.cons hl117 (Sub.cons hl118 (Sub.cons hl119 (Sub.nil _)))))) ?_
  have hf120z := Box.lt hf120
  have hf125z := Ex.size hf125
  have hbg129 := RdS.big hf124
  rcases Nat.lt_or_ge k16 ps.length with hlt130 | hlt130
  ·refine CW.seq (CW.region (sd rfl (yl_lss rfl rfl rfl (dn (CW.seq (CW.cond_t rfl (lt_t hlt130) (CW.skip (tn ?_))))))))
   refine CW.seq (CW.block (CW.seq (CW.region ?_)))
   obtain ⟨eb131, eo131, _, eA131, _, ebl131, _, eR131, eC131⟩ := RdS.aD hf124 d_Write (i := k16)
   obtain rfl := eR131
   have eC131 : Cells w111 eb131 (eo131 + k16 * 3) [.string (bs ((ps.getD k16 d_Write).Key)), .string (bs ((ps.getD k16 d_Write).Val)), .bool ((ps.getD k16 d_Write).Gone)] := eC131
   refine sd rfl (yl_ixN un27 ty66 rfl rfl rfl eA131 (sd rfl (yl_loadN ty66 rfl rfl eC131 rfl (sd rfl (yB ty66 (cs := [.string (bs (([] : Str))), .string (bs (([] : Str))), .bool (false)]) rfl rfl ?_)))))
   intro b132 w133 hs134 hz135 hB136 hE137
   refine SeqR.u rfl rfl (yl_store (vs := [.string (bs ((ps.getD k16 d_Write).Key)), .string (bs ((ps.getD k16 d_Write).Val)), .bool ((ps.getD k16 d_Write).Gone)]) ty66 rfl rfl rfl rfl rfl rfl hB136 (Nat.le_of_ble_eq_true rfl) ?_)
   intro w138 hB139 hO140
   have hB139 : Box w138 b132 66 [.string (bs ((ps.getD k16 d_Write).Key)), .string (bs ((ps.getD k16 d_Write).Val)), .bool ((ps.getD k16 d_Write).Gone)] := hB139
   have hO140z := hO140.size
   refine dn (CW.seq (CW.region ?_))
   have q142 := Box.only (Box.ex hf120 hE137) hO140 (by omega)
   refine sd rfl (yl_loadN ty26 rfl rfl (q142.cells (n := 3) rfl) rfl (sd rfl (yl_loadN ty66 rfl rfl (hB139.cells (n := 3) rfl) rfl ?_)))
   have q144 := RdS.only gS (RdS.ex gS hf121 hE137) hO140 (by simp only [Iv]; omega)
   have q146 := RdS.only gI (RdS.ex gI hf122 hE137) hO140 (by simp only [Iv]; omega)
   refine sd rfl (yC en61 rfl (oc rfl (oc rfl oz)) (Cal.mono (c_s_l25Read p_t (ps.getD k16 d_Write) (RdS.up q144 gS) (RdS.up q146 gI) o3 (okL.getD o5 ok_d_Write _)) ?_))
   rintro v150 w147 ⟨A148, c148, lo148, hi148, rfl, h148, ho149, hrn152, hE151⟩
   have hE151z := Ex.size hE151
   refine sd rfl (yM rfl rfl (sd rfl (yl_extract rfl rfl rfl (sd rfl (yl_extract rfl rfl rfl (sd rfl (yB ty38 (cs := [.slice none 0 0]) rfl rfl ?_)))))))
   intro b153 w154 hs155 hz156 hB157 hE158
   refine SeqR.u rfl rfl (yl_store (vs := [.slice A148 (((s_l25Read p_t (ps.getD k16 d_Write)).1.Vals).length) c148]) ty38 rfl rfl rfl rfl rfl rfl hB157 (Nat.le_of_ble_eq_true rfl) ?_)
   intro w159 hB160 hO161
   have hB160 : Box w159 b153 38 [.slice A148 (((s_l25Read p_t (ps.getD k16 d_Write)).1.Vals).length) c148] := hB160
   have hO161z := hO161.size
   refine sd rfl (yA rfl rfl (dn (CW.seq (CW.region (sd rfl (yM rfl rfl (dn (bcase ((s_l25Read p_t (ps.getD k16 d_Write)).2) (fun hb162 => ?_) (fun hb162 => ?_)))))))))
   ·refine CW.cond_t rfl hb162 (CW.region (sd rfl (yM rfl rfl (sd rfl (yl_loadN ty38 rfl rfl (hB160.cells (n := 1) rfl) rfl (sd rfl (yl_buildSlice (cs := [.slice A148 (((s_l25Read p_t (ps.getD k16 d_Write)).1.Vals).length) c148]) un32 ty38 (by decide) rfl (oc rfl oz) (by kernel_rfl) ?_)))))))
    intro b163 w164 hs165 hz166 hB167 hE168
    have hO169 : OwnD w164 w138.heap.size (b163 + 1) 38 1 RO_Row (some ⟨b163, 0, none⟩) 1 1 ([(s_l25Read p_t (ps.getD k16 d_Write)).1] : List DRow) := OwnD.of_box (b := b163) (xs := ([(s_l25Read p_t (ps.getD k16 d_Write)).1] : List DRow)) (cells := [[.slice A148 (((s_l25Read p_t (ps.getD k16 d_Write)).1.Vals).length) c148]]) (by rw [List.flatten_singleton]; exact hB167) (by omega) (Nat.lt_succ_self _) (.cons (l := w138.heap.size) (h := b163) (Nat.le_refl _) (by omega) rfl (fun k hk => by cases hk; exact .inr (Nat.le_refl _)) (mkO_Row (l := w138.heap.size) (h := b163) (OwnL.ex gS (OwnL.only gS (OwnL.ex gS h148 hE158) hO161 (by omega)) hE168) (by omega)) (.nil (Nat.le_succ _))) (Nat.le_of_ble_eq_true rfl)
    refine sd rfl (yl_appendD (xs := x98) (ys := ([(s_l25Read p_t (ps.getD k16 d_Write)).1] : List DRow)) goodO_Row un32 ty38 rfl (Nat.le_of_ble_eq_true rfl) rfl rfl rfl (OwnD.ex goodO_Row (OwnD.only goodO_Row (OwnD.ex goodO_Row (OwnD.ex goodO_Row (OwnD.only goodO_Row (OwnD.ex goodO_Row hf123 hE137) hO140 (by omega)) hE151) hE158) hO161 (by omega)) hE168) hO169 (by first | omega | (simp only [lN, toS_length]; omega)) (by first | omega | (simp only [lN, toS_length]; omega)) (by omega) (by omega) (by omega) (by omega) ?_)
    intro A178 c179 w180 row181 hO182 hG183 hrg184
    have hG183z := hG183.size
    refine sd rfl (yA rfl rfl (SeqR.done (bn (tn (CW.region (sd rfl (yl_inc rfl rfl rfl (by omega) (sd rfl (yM rfl rfl (dn ?_))))))))))
    have hB185 : B_s_l25Rows_0 p_t ps k16 (x98) = .cont ((x98 ++ ([(s_l25Read p_t (ps.getD k16 d_Write)).1] : List DRow))) := by simp only [B_s_l25Rows_0, hb162, cL]
    exact ⟨ps.length - (k16 + 1), by omega, k16 + 1, (x98 ++ ([(s_l25Read p_t (ps.getD k16 d_Write)).1] : List DRow)), A178, c179, w180.heap.size, rfl, hlt130, (by omega), rfl, rfl, rfl, rfl, rfl, (Box.grown (Box.ex (Box.only (Box.ex (Box.ex q142 hE151) hE158) hO161 (by omega)) hE168) hG183 (fun k hk => by have := hrg184 k hk; omega)), (RdS.grown gS (RdS.ex gS (RdS.only gS (RdS.ex gS (RdS.ex gS q144 hE151) hE158) hO161 (by simp only [Iv]; omega)) hE168) hG183 (fun k hk => by have := hrg184 k hk; simp only [Iv]; omega)), (RdS.grown gI (RdS.ex gI (RdS.only gI (RdS.ex gI (RdS.ex gI q146 hE151) hE158) hO161 (by simp only [Iv]; omega)) hE168) hG183 (fun k hk => by have := hrg184 k hk; simp only [Iv]; omega)), hO182, (RdS.grown gW (RdS.ex gW (RdS.only gW (RdS.ex gW (RdS.ex gW (RdS.only gW (RdS.ex gW hf124 hE137) hO140 (by simp only [Iv]; omega)) hE151) hE158) hO161 (by simp only [Iv]; omega)) hE168) hG183 (fun k hk => by have := hrg184 k hk; simp only [Iv]; omega)), (Below.grown (Ex.trans (Below.only (Ex.trans (Ex.trans (Below.only (Ex.trans hf125 hE137) hO140 (by omega)) hE151) hE158) hO161 (by omega)) hE168) hG183 (by omega) (fun k hk => by have := hrg184 k hk; omega)), (by omega), (by first | omega | (simp only [lN, toS_length]; omega)), (okE.append hok128 ((okL.mk (Nat.le_of_ble_eq_true rfl) (okE.cons (show ok_Row ((s_l25Read p_t (ps.getD k16 d_Write)).1) from ho149) okE.nil))).2), (loopM.cont hlt130 hB185).symm.trans hI113⟩
   ·refine CW.cond_f rfl hb162 (CW.skip (bn (tn (CW.region (sd rfl (yl_inc rfl rfl rfl (by omega) (sd rfl (yM rfl rfl (dn ?_)))))))))
    have hB215 : B_s_l25Rows_0 p_t ps k16 (x98) = .cont (x98) := by simp only [B_s_l25Rows_0, hb162, cL]
    exact ⟨ps.length - (k16 + 1), by omega, k16 + 1, x98, A99, c100, u101, rfl, hlt130, (by omega), rfl, rfl, rfl, rfl, rfl, (Box.only (Box.ex (Box.ex q142 hE151) hE158) hO161 (by omega)), (RdS.only gS (RdS.ex gS (RdS.ex gS q144 hE151) hE158) hO161 (by simp only [Iv]; omega)), (RdS.only gI (RdS.ex gI (RdS.ex gI q146 hE151) hE158) hO161 (by simp only [Iv]; omega)), (OwnD.only goodO_Row (OwnD.ex goodO_Row (OwnD.ex goodO_Row (OwnD.only goodO_Row (OwnD.ex goodO_Row hf123 hE137) hO140 (by omega)) hE151) hE158) hO161 (by omega)), (RdS.only gW (RdS.ex gW (RdS.ex gW (RdS.only gW (RdS.ex gW hf124 hE137) hO140 (by simp only [Iv]; omega)) hE151) hE158) hO161 (by simp only [Iv]; omega)), (Below.only (Ex.trans (Ex.trans (Below.only (Ex.trans hf125 hE137) hO140 (by omega)) hE151) hE158) hO161 (by omega)), (by omega), (by first | omega | (simp only [lN, toS_length]; omega)), hok128, (loopM.cont hlt130 hB215).symm.trans hI113⟩
  ·refine CW.seq (CW.region (sd rfl (yl_lss rfl rfl rfl (dn (CW.seq (CW.cond_f rfl (lt_f hlt130) (CW.exit (tx ?_))))))))
   refine tx ?_
   have hL240 : loopM (B_s_l25Rows_0 p_t ps) (ps.length - 0) 0 (([] : List DRow)) = .done (x98) := hI113.symm.trans (loopM.stop hlt130)
   refine bx (tn (CW.seq (CW.region (sd rfl (yM rfl rfl (sd rfl (yA rfl rfl (dn (CW.ret ?_)))))))))
   refine rr rfl (.cons rfl .nil) ?_
   have hM241 : (s_l25Rows p_t ps) = (x98) := by simp only [s_l25Rows, hL240, cL]
   rw [hM241]
   exact ⟨A99, c100, w11.heap.size, u101, rfl, hf123, (okL.mk (xs := x98) (by first | omega | (simp only [lN, toS_length]; omega)) hok128), (by omega), hf125⟩
end Go.Proofs.YtlnjgkmpaebioaaGreatDoor
