/- Fn Tables: what each call returns, part 1. -/
import Derived.Test.YtgfkmgjpannelaaGreatDoorFnTablesL
import Derived.Test.YtgfkmgjpannelaaGreatDoorFnTablesF
import Derived.Test.YtgfkmgjpannelaaGreatDoorFnTablesQ
import Derived.Test.YtgfkmgjpannelaaGreatDoorFnTablesY
import Derived.Test.YtgfkmgjpannelaaGreatDoorFnTablesS
import Derived.Test.YtgfkmgjpannelaaGreatDoorFnTablesN
set_option maxRecDepth 100000
set_option maxHeartbeats 2000000
open Go.Proofs.Tryz Go.Proofs.YtgfkmgjpannelaaGreatDoor.Tryz
set_option linter.unusedVariables false
set_option linter.unusedSimpArgs false
namespace Go.Proofs.YtgfkmgjpannelaaGreatDoor
open Go.RowKit Go.X
theorem c_u_next {A3 : Option Addr} {c3 : Nat} {slo3 shi3 : Nat} {b1 : Nat} {w : World} (pC : List Int) (p_c : Int × Int) (h2 : Box w b1 78 [.slice A3 pC.length c3, .int .i64 (p_c.1), .int .u64 (p_c.2)]) (h3 : RdS w (Iv slo3 shi3) (RF e_U8) 1 A3 pC.length c3 pC) (hrn4 : shi3 ≤ w.heap.size) (hrn5 : b1 < slo3 ∨ shi3 ≤ b1) (o6 : (okL okT) pC) (pre0 : (0 ≤ p_c.1 ∧ p_c.1 ≤ 4611686018427387903)) (pre1 : codeOk pC) : Cal Tryz.prog 70 #[.pointer (some ⟨b1, 0, none⟩)] w fun v w' => v = .int .i64 ((u_next pC p_c).1) ∧ (0 ≤ (u_next pC p_c).1 ∧ (u_next pC p_c).1 ≤ 255) ∧ (p_c.1 ≤ ((u_next pC p_c).2).1 ∧ ((u_next pC p_c).2).1 ≤ p_c.1 + 1) ∧ Box w' b1 78 [.slice A3 pC.length c3, .int .i64 (((u_next pC p_c).2).1), .int .u64 (((u_next pC p_c).2).2)] ∧ Chg (InR [(b1, b1 + 1)]) w w' := by
 have hol7 := o6.1
 have hbx8 := Box.lt h2
 have hcd := codeOk_at pre1 (p_c.1).toNat
 refine Cal.of func70 rfl ntmps70 rfl (cR (sA rfl (dn (cR (sA rfl ?_)))))
 refine dn (CW.seq (CW.seq (drI 10 [.pointer (some ⟨b1, 0, none⟩), .pointer (some ⟨b1, 0, none⟩), .pointer (some ⟨b1, 0 + 1, none⟩), .int .i64 (p_c.1), .pointer (some ⟨b1, 0, none⟩), .pointer (some ⟨b1, 0, none⟩), .pointer (some ⟨b1, 0 + 0, none⟩), .slice A3 pC.length c3, .int .i64 ((pC.length : Int)), .bool (decide (p_c.1 < (pC.length : Int)))] Tryz.follows rfl ⟨?_, ?_, ?_, ?_, ?_, ?_, ?_, ?_, ?_, ?_, trivial⟩ ?_)))
 ·exact oI rfl fun h => yM rfl (h.old 0 _ rfl rfl) kI
 ·exact oI rfl fun h => yl_nil rfl (h.dt 0 4 rfl rfl rfl) kI
 ·exact oI rfl fun h => yl_fieldAddr fd78_1 rfl (h.dt 1 5 rfl rfl rfl) kI
 ·exact oI rfl fun h => yl_load1 ty3 rfl (h.dt 2 6 rfl rfl rfl) (((Box.ex h2 h.ex).cell 1).trans rfl) kI
 ·exact oI rfl fun h => yM rfl (h.old 0 _ rfl rfl) kI
 ·exact oI rfl fun h => yl_nil rfl (h.dt 4 8 rfl rfl rfl) kI
 ·exact oI rfl fun h => yl_fieldAddr fd78_0 rfl (h.dt 5 9 rfl rfl rfl) kI
 ·exact oI rfl fun h => yl_load1 ty22 rfl (h.dt 6 10 rfl rfl rfl) (((Box.ex h2 h.ex).cell 0).trans rfl) kI
 ·exact oI rfl fun h => yL un22 rfl (h.dt 7 11 rfl rfl rfl) kI
 ·exact oI rfl fun h => yl_lss rfl (h.dt 3 7 rfl rfl rfl) (h.dt 8 12 rfl rfl rfl) kI
 ·intro fl65 fh66 L62 w63 hp64
  have hE67 := hp64.ex
  have hE67z := Ex.size hE67
  refine dn (CW.sub (sC 0 (hp64.old 0 _ rfl rfl) (sC 3 (hp64.old 3 _ rfl rfl) (sC 13 (hp64.nt 9 13 rfl rfl rfl) (Sub.nil _)))) (bcase (decide (p_c.1 < (pC.length : Int))) (fun hb71 => ?_) (fun hb71 => ?_)))
  ·have hb71p := dec_t hb71
   refine CW.cond_t rfl hb71 ?_
   have q72 := Box.ex h2 hE67
   refine drI 8 [.pointer (some ⟨b1, 0, none⟩), .pointer (some ⟨b1, 0, none⟩), .pointer (some ⟨b1, 0 + 0, none⟩), .slice A3 pC.length c3, .pointer (some ⟨b1, 0, none⟩), .pointer (some ⟨b1, 0, none⟩), .pointer (some ⟨b1, 0 + 1, none⟩), .int .i64 (p_c.1)] Tryz.follows rfl ⟨?_, ?_, ?_, ?_, ?_, ?_, ?_, ?_, trivial⟩ ?_
   ·exact oI rfl fun h => yM rfl (h.old 0 _ rfl rfl) kI
   ·exact oI rfl fun h => yl_nil rfl (h.dt 0 14 rfl rfl rfl) kI
   ·exact oI rfl fun h => yl_fieldAddr fd78_0 rfl (h.dt 1 15 rfl rfl rfl) kI
   ·exact oI rfl fun h => yl_load1 ty22 rfl (h.dt 2 16 rfl rfl rfl) (((Box.ex q72 h.ex).cell 0).trans rfl) kI
   ·exact oI rfl fun h => yM rfl (h.old 0 _ rfl rfl) kI
   ·exact oI rfl fun h => yl_nil rfl (h.dt 4 18 rfl rfl rfl) kI
   ·exact oI rfl fun h => yl_fieldAddr fd78_1 rfl (h.dt 5 19 rfl rfl rfl) kI
   ·exact oI rfl fun h => yl_load1 ty3 rfl (h.dt 6 20 rfl rfl rfl) (((Box.ex q72 h.ex).cell 1).trans rfl) kI
   ·intro fl118 fh119 L115 w116 hp117
    have hE120 := hp117.ex
    have hE120z := Ex.size hE120
    obtain ⟨eb126, eo126, _, eA126, _, ebl126, _, eR126, eC126⟩ := RdS.atD (RdS.ex gU (RdS.ex gU h3 hE67) hE120) d_U8 (i := (p_c.1).toNat) Bo
    obtain rfl := eR126
    have eC126 : Cells w116 eb126 (eo126 + ((p_c.1).toNat) * 1) [.int .u8 ((pC.getD ((p_c.1).toNat) d_U8))] := eC126
    refine sd rfl (yl_indexAddr un22 ty5 rfl (hp117.nt 3 17 rfl rfl rfl) (hp117.nt 7 21 rfl rfl rfl) eA126 Bo Bo (sd rfl (yl_load1 ty5 rfl rfl (eC126 0 _ rfl) (sd rfl (yl_conv un5 un3 rfl rfl (sA rfl (dn (CW.sub (sC 0 (hp117.old 0 _ rfl rfl) (sC 3 rfl (Sub.nil _))) (cR ?_)))))))))
    refine sM rfl (sd rfl (yl_nil rfl rfl (sd rfl (yl_fieldAddr fd78_1 rfl rfl ?_))))
    have q127 := Box.ex q72 hE120
    refine sd rfl (yl_load1 ty3 rfl rfl ((q127.cell 1).trans rfl) (sd rfl (yl_add rfl rfl rfl (sd rfl (yl_nil rfl rfl (sd rfl (yl_fieldAddr fd78_1 rfl rfl (SeqR.u rfl rfl (yl_store (vs := [.int .i64 (IntKind.wrap .i64 (p_c.1 + 1))]) ty3 rfl rfl rfl rfl rfl rfl q127 (nb rfl) ?_)))))))))
    intro w128 hB129 hO130
    have hB129 : Box w128 b1 78 [.slice A3 pC.length c3, .int .i64 (IntKind.wrap .i64 (p_c.1 + 1)), .int .u64 (p_c.2)] := hB129
    have hO130z := hO130.size
    refine dn (cR (sM rfl (sM rfl (sd rfl (yl_nil rfl rfl (sd rfl (yl_fieldAddr fd78_2 rfl rfl (sd rfl (yl_load1 ty76 rfl rfl ((hB129.cell 2).trans rfl) ?_)))))))))
    refine sd rfl (yl_mul rfl rfl rfl (sM rfl (sd rfl (yl_conv un3 un76 rfl rfl (sd rfl (yl_add rfl rfl rfl (sd rfl (yl_add rfl rfl rfl (sd rfl (yl_nil rfl rfl (sd rfl (yl_fieldAddr fd78_2 rfl rfl (SeqR.u rfl rfl (yl_store (vs := [.int .u64 (IntKind.wrap .u64 ((IntKind.wrap .u64 ((IntKind.wrap .u64 (p_c.2 * 6364136223846793005)) + (IntKind.wrap .u64 (IntKind.wrap .i64 (pC.getD ((p_c.1).toNat) d_U8))))) + 1442695040888963407))]) ty76 rfl rfl rfl rfl rfl rfl hB129 (nb rfl) ?_))))))))))))))
    intro w131 hB132 hO133
    have hB132 : Box w131 b1 78 [.slice A3 pC.length c3, .int .i64 (IntKind.wrap .i64 (p_c.1 + 1)), .int .u64 (IntKind.wrap .u64 ((IntKind.wrap .u64 ((IntKind.wrap .u64 (p_c.2 * 6364136223846793005)) + (IntKind.wrap .u64 (IntKind.wrap .i64 (pC.getD ((p_c.1).toNat) d_U8))))) + 1442695040888963407))] := hB132
    have hO133z := hO133.size
    refine dn (CW.seq (CW.seq (drI 10 [.pointer (some ⟨b1, 0, none⟩), .pointer (some ⟨b1, 0, none⟩), .pointer (some ⟨b1, 0 + 1, none⟩), .int .i64 (IntKind.wrap .i64 (p_c.1 + 1)), .pointer (some ⟨b1, 0, none⟩), .pointer (some ⟨b1, 0, none⟩), .pointer (some ⟨b1, 0 + 0, none⟩), .slice A3 pC.length c3, .int .i64 ((pC.length : Int)), .bool (decide ((IntKind.wrap .i64 (p_c.1 + 1)) ≤ (pC.length : Int)))] Tryz.follows rfl ⟨?_, ?_, ?_, ?_, ?_, ?_, ?_, ?_, ?_, ?_, trivial⟩ ?_)))
    ·exact oI rfl fun h => yM rfl (h.old 0 _ rfl rfl) kI
    ·exact oI rfl fun h => yl_nil rfl (h.dt 0 44 rfl rfl rfl) kI
    ·exact oI rfl fun h => yl_fieldAddr fd78_1 rfl (h.dt 1 45 rfl rfl rfl) kI
    ·exact oI rfl fun h => yl_load1 ty3 rfl (h.dt 2 46 rfl rfl rfl) (((Box.ex hB132 h.ex).cell 1).trans rfl) kI
    ·exact oI rfl fun h => yM rfl (h.old 0 _ rfl rfl) kI
    ·exact oI rfl fun h => yl_nil rfl (h.dt 4 48 rfl rfl rfl) kI
    ·exact oI rfl fun h => yl_fieldAddr fd78_0 rfl (h.dt 5 49 rfl rfl rfl) kI
    ·exact oI rfl fun h => yl_load1 ty22 rfl (h.dt 6 50 rfl rfl rfl) (((Box.ex hB132 h.ex).cell 0).trans rfl) kI
    ·exact oI rfl fun h => yL un22 rfl (h.dt 7 51 rfl rfl rfl) kI
    ·exact oI rfl fun h => yl_leq rfl (h.dt 3 47 rfl rfl rfl) (h.dt 8 52 rfl rfl rfl) kI
    ·intro fl190 fh191 L187 w188 hp189
     have hE192 := hp189.ex
     have hE192z := Ex.size hE192
     refine dn (CW.sub (sC 0 (hp189.old 0 _ rfl rfl) (sC 3 (hp189.old 3 _ rfl rfl) (sC 53 (hp189.nt 9 53 rfl rfl rfl) (Sub.nil _)))) (bcase (decide ((IntKind.wrap .i64 (p_c.1 + 1)) ≤ (pC.length : Int))) (fun hb196 => ?_) (fun hb196 => ?_)))
     ·have hb196p := dec_t hb196
      refine CW.cond_t rfl hb196 (cR (sM rfl (sA rfl (dn (CW.ret (tr ?_))))))
      refine rr rfl (.cons rfl .nil) ?_
      have hM197 : (u_next pC p_c) = ((IntKind.wrap .i64 (pC.getD ((p_c.1).toNat) d_U8), (IntKind.wrap .i64 (p_c.1 + 1), IntKind.wrap .u64 ((IntKind.wrap .u64 ((IntKind.wrap .u64 (p_c.2 * 6364136223846793005)) + (IntKind.wrap .u64 (IntKind.wrap .i64 (pC.getD ((p_c.1).toNat) d_U8))))) + 1442695040888963407)))) := by first | (simp only [u_next, hb71, hb196, cL]; done) | (simp only [u_next, hb71, hb196, cond_true, cond_false, loopE_done, loopE_ret, pairE]; done) | exact (show (u_next pC p_c) = ((IntKind.wrap .i64 (pC.getD ((p_c.1).toNat) d_U8), (IntKind.wrap .i64 (p_c.1 + 1), IntKind.wrap .u64 ((IntKind.wrap .u64 ((IntKind.wrap .u64 (p_c.2 * 6364136223846793005)) + (IntKind.wrap .u64 (IntKind.wrap .i64 (pC.getD ((p_c.1).toNat) d_U8))))) + 1442695040888963407)))) from by simp only [u_next, hb71, hb196, cond_true, cond_false, loopE_done, loopE_ret, pairE])
      rw [hM197]
      exact ⟨rfl, (by (try dsimp only); first | omega | exact iand_u8 _ | (simp only [wI] at *; omega)), (by (try dsimp only); first | omega | exact iand_u8 _ | (simp only [wI] at *; omega)), (Box.ex hB132 hE192), (Chg.tex (Chg.tonly (Chg.tonly (Chg.tex (Chg.tex (Chg.refl (InR [(b1, b1 + 1)]) w) hE67) hE120) hO130 (by simp only [InR, or_false]; omega)) hO133 (by simp only [InR, or_false]; omega)) hE192)⟩
     ·have hb196p := dec_f hb196
      refine CW.cond_f rfl hb196 (CW.skip (tn (cR (sM rfl (sd rfl (yl_nil rfl rfl (sd rfl (yl_fieldAddr fd78_2 rfl rfl ?_))))))))
      have q204 := Box.ex hB132 hE192
      refine sd rfl (yl_load1 ty76 rfl rfl ((q204.cell 2).trans rfl) (sd rfl (yl_shr (q := 1099511627776) rfl rfl rfl (by decide) (by decide) (by decide) (sd rfl (yl_and rfl rfl rfl (sd rfl (yl_conv un76 un3 rfl rfl (sA rfl (dn (CW.ret (rr rfl (.cons rfl .nil) ?_)))))))))))
      have hM205 : (u_next pC p_c) = ((IntKind.wrap .i64 (iand .u64 (Int.fdiv (IntKind.wrap .u64 ((IntKind.wrap .u64 ((IntKind.wrap .u64 (p_c.2 * 6364136223846793005)) + (IntKind.wrap .u64 (IntKind.wrap .i64 (pC.getD ((p_c.1).toNat) d_U8))))) + 1442695040888963407)) 1099511627776) 255), (IntKind.wrap .i64 (p_c.1 + 1), IntKind.wrap .u64 ((IntKind.wrap .u64 ((IntKind.wrap .u64 (p_c.2 * 6364136223846793005)) + (IntKind.wrap .u64 (IntKind.wrap .i64 (pC.getD ((p_c.1).toNat) d_U8))))) + 1442695040888963407)))) := by first | (simp only [u_next, hb71, hb196, cL]; done) | (simp only [u_next, hb71, hb196, cond_true, cond_false, loopE_done, loopE_ret, pairE]; done) | exact (show (u_next pC p_c) = ((IntKind.wrap .i64 (iand .u64 (Int.fdiv (IntKind.wrap .u64 ((IntKind.wrap .u64 ((IntKind.wrap .u64 (p_c.2 * 6364136223846793005)) + (IntKind.wrap .u64 (IntKind.wrap .i64 (pC.getD ((p_c.1).toNat) d_U8))))) + 1442695040888963407)) 1099511627776) 255), (IntKind.wrap .i64 (p_c.1 + 1), IntKind.wrap .u64 ((IntKind.wrap .u64 ((IntKind.wrap .u64 (p_c.2 * 6364136223846793005)) + (IntKind.wrap .u64 (IntKind.wrap .i64 (pC.getD ((p_c.1).toNat) d_U8))))) + 1442695040888963407)))) from by simp only [u_next, hb71, hb196, cond_true, cond_false, loopE_done, loopE_ret, pairE])
      rw [hM205]
      exact ⟨rfl, (by (try dsimp only); first | omega | exact iand_u8 _ | (simp only [wI] at *; omega)), (by (try dsimp only); first | omega | exact iand_u8 _ | (simp only [wI] at *; omega)), q204, (Chg.tex (Chg.tonly (Chg.tonly (Chg.tex (Chg.tex (Chg.refl (InR [(b1, b1 + 1)]) w) hE67) hE120) hO130 (by simp only [InR, or_false]; omega)) hO133 (by simp only [InR, or_false]; omega)) hE192)⟩
  ·have hb71p := dec_f hb71
   refine CW.cond_f rfl hb71 (CW.skip (tn (cR (sM rfl (sd rfl (yl_nil rfl rfl (sd rfl (yl_fieldAddr fd78_1 rfl rfl ?_))))))))
   have q211 := Box.ex h2 hE67
   refine sd rfl (yl_load1 ty3 rfl rfl ((q211.cell 1).trans rfl) (sd rfl (yl_add rfl rfl rfl (sd rfl (yl_nil rfl rfl (sd rfl (yl_fieldAddr fd78_1 rfl rfl (SeqR.u rfl rfl (yl_store (vs := [.int .i64 (IntKind.wrap .i64 (p_c.1 + 1))]) ty3 rfl rfl rfl rfl rfl rfl q211 (nb rfl) ?_)))))))))
   intro w212 hB213 hO214
   have hB213 : Box w212 b1 78 [.slice A3 pC.length c3, .int .i64 (IntKind.wrap .i64 (p_c.1 + 1)), .int .u64 (p_c.2)] := hB213
   have hO214z := hO214.size
   refine dn (cR (sM rfl (sM rfl (sd rfl (yl_nil rfl rfl (sd rfl (yl_fieldAddr fd78_2 rfl rfl (sd rfl (yl_load1 ty76 rfl rfl ((hB213.cell 2).trans rfl) ?_)))))))))
   refine sd rfl (yl_mul rfl rfl rfl (sM rfl (sd rfl (yl_conv un3 un76 rfl rfl (sd rfl (yl_add rfl rfl rfl (sd rfl (yl_add rfl rfl rfl (sd rfl (yl_nil rfl rfl (sd rfl (yl_fieldAddr fd78_2 rfl rfl (SeqR.u rfl rfl (yl_store (vs := [.int .u64 (IntKind.wrap .u64 ((IntKind.wrap .u64 ((IntKind.wrap .u64 (p_c.2 * 6364136223846793005)) + (IntKind.wrap .u64 0))) + 1442695040888963407))]) ty76 rfl rfl rfl rfl rfl rfl hB213 (nb rfl) ?_))))))))))))))
   intro w215 hB216 hO217
   have hB216 : Box w215 b1 78 [.slice A3 pC.length c3, .int .i64 (IntKind.wrap .i64 (p_c.1 + 1)), .int .u64 (IntKind.wrap .u64 ((IntKind.wrap .u64 ((IntKind.wrap .u64 (p_c.2 * 6364136223846793005)) + (IntKind.wrap .u64 0))) + 1442695040888963407))] := hB216
   have hO217z := hO217.size
   refine dn (CW.seq (CW.seq (drI 10 [.pointer (some ⟨b1, 0, none⟩), .pointer (some ⟨b1, 0, none⟩), .pointer (some ⟨b1, 0 + 1, none⟩), .int .i64 (IntKind.wrap .i64 (p_c.1 + 1)), .pointer (some ⟨b1, 0, none⟩), .pointer (some ⟨b1, 0, none⟩), .pointer (some ⟨b1, 0 + 0, none⟩), .slice A3 pC.length c3, .int .i64 ((pC.length : Int)), .bool (decide ((IntKind.wrap .i64 (p_c.1 + 1)) ≤ (pC.length : Int)))] Tryz.follows rfl ⟨?_, ?_, ?_, ?_, ?_, ?_, ?_, ?_, ?_, ?_, trivial⟩ ?_)))
   ·exact oI rfl fun h => yM rfl (h.old 0 _ rfl rfl) kI
   ·exact oI rfl fun h => yl_nil rfl (h.dt 0 44 rfl rfl rfl) kI
   ·exact oI rfl fun h => yl_fieldAddr fd78_1 rfl (h.dt 1 45 rfl rfl rfl) kI
   ·exact oI rfl fun h => yl_load1 ty3 rfl (h.dt 2 46 rfl rfl rfl) (((Box.ex hB216 h.ex).cell 1).trans rfl) kI
   ·exact oI rfl fun h => yM rfl (h.old 0 _ rfl rfl) kI
   ·exact oI rfl fun h => yl_nil rfl (h.dt 4 48 rfl rfl rfl) kI
   ·exact oI rfl fun h => yl_fieldAddr fd78_0 rfl (h.dt 5 49 rfl rfl rfl) kI
   ·exact oI rfl fun h => yl_load1 ty22 rfl (h.dt 6 50 rfl rfl rfl) (((Box.ex hB216 h.ex).cell 0).trans rfl) kI
   ·exact oI rfl fun h => yL un22 rfl (h.dt 7 51 rfl rfl rfl) kI
   ·exact oI rfl fun h => yl_leq rfl (h.dt 3 47 rfl rfl rfl) (h.dt 8 52 rfl rfl rfl) kI
   ·intro fl274 fh275 L271 w272 hp273
    have hE276 := hp273.ex
    have hE276z := Ex.size hE276
    refine dn (CW.sub (sC 0 (hp273.old 0 _ rfl rfl) (sC 3 (hp273.old 3 _ rfl rfl) (sC 53 (hp273.nt 9 53 rfl rfl rfl) (Sub.nil _)))) (bcase (decide ((IntKind.wrap .i64 (p_c.1 + 1)) ≤ (pC.length : Int))) (fun hb280 => ?_) (fun hb280 => ?_)))
    ·have hb280p := dec_t hb280
     refine CW.cond_t rfl hb280 (cR (sM rfl (sA rfl (dn (CW.ret (tr ?_))))))
     refine rr rfl (.cons rfl .nil) ?_
     have hM281 : (u_next pC p_c) = ((0, (IntKind.wrap .i64 (p_c.1 + 1), IntKind.wrap .u64 ((IntKind.wrap .u64 ((IntKind.wrap .u64 (p_c.2 * 6364136223846793005)) + (IntKind.wrap .u64 0))) + 1442695040888963407)))) := by first | (simp only [u_next, hb71, hb280, cL]; done) | (simp only [u_next, hb71, hb280, cond_true, cond_false, loopE_done, loopE_ret, pairE]; done) | exact (show (u_next pC p_c) = ((0, (IntKind.wrap .i64 (p_c.1 + 1), IntKind.wrap .u64 ((IntKind.wrap .u64 ((IntKind.wrap .u64 (p_c.2 * 6364136223846793005)) + (IntKind.wrap .u64 0))) + 1442695040888963407)))) from by simp only [u_next, hb71, hb280, cond_true, cond_false, loopE_done, loopE_ret, pairE])
     rw [hM281]
     exact ⟨rfl, (by (try dsimp only); first | omega | exact iand_u8 _ | (simp only [wI] at *; omega)), (by (try dsimp only); first | omega | exact iand_u8 _ | (simp only [wI] at *; omega)), (Box.ex hB216 hE276), (Chg.tex (Chg.tonly (Chg.tonly (Chg.tex (Chg.refl (InR [(b1, b1 + 1)]) w) hE67) hO214 (by simp only [InR, or_false]; omega)) hO217 (by simp only [InR, or_false]; omega)) hE276)⟩
    ·have hb280p := dec_f hb280
     refine CW.cond_f rfl hb280 (CW.skip (tn (cR (sM rfl (sd rfl (yl_nil rfl rfl (sd rfl (yl_fieldAddr fd78_2 rfl rfl ?_))))))))
     have q287 := Box.ex hB216 hE276
     refine sd rfl (yl_load1 ty76 rfl rfl ((q287.cell 2).trans rfl) (sd rfl (yl_shr (q := 1099511627776) rfl rfl rfl (by decide) (by decide) (by decide) (sd rfl (yl_and rfl rfl rfl (sd rfl (yl_conv un76 un3 rfl rfl (sA rfl (dn (CW.ret (rr rfl (.cons rfl .nil) ?_)))))))))))
     have hM288 : (u_next pC p_c) = ((IntKind.wrap .i64 (iand .u64 (Int.fdiv (IntKind.wrap .u64 ((IntKind.wrap .u64 ((IntKind.wrap .u64 (p_c.2 * 6364136223846793005)) + (IntKind.wrap .u64 0))) + 1442695040888963407)) 1099511627776) 255), (IntKind.wrap .i64 (p_c.1 + 1), IntKind.wrap .u64 ((IntKind.wrap .u64 ((IntKind.wrap .u64 (p_c.2 * 6364136223846793005)) + (IntKind.wrap .u64 0))) + 1442695040888963407)))) := by first | (simp only [u_next, hb71, hb280, cL]; done) | (simp only [u_next, hb71, hb280, cond_true, cond_false, loopE_done, loopE_ret, pairE]; done) | exact (show (u_next pC p_c) = ((IntKind.wrap .i64 (iand .u64 (Int.fdiv (IntKind.wrap .u64 ((IntKind.wrap .u64 ((IntKind.wrap .u64 (p_c.2 * 6364136223846793005)) + (IntKind.wrap .u64 0))) + 1442695040888963407)) 1099511627776) 255), (IntKind.wrap .i64 (p_c.1 + 1), IntKind.wrap .u64 ((IntKind.wrap .u64 ((IntKind.wrap .u64 (p_c.2 * 6364136223846793005)) + (IntKind.wrap .u64 0))) + 1442695040888963407)))) from by simp only [u_next, hb71, hb280, cond_true, cond_false, loopE_done, loopE_ret, pairE])
     rw [hM288]
     exact ⟨rfl, (by (try dsimp only); first | omega | exact iand_u8 _ | (simp only [wI] at *; omega)), (by (try dsimp only); first | omega | exact iand_u8 _ | (simp only [wI] at *; omega)), q287, (Chg.tex (Chg.tonly (Chg.tonly (Chg.tex (Chg.refl (InR [(b1, b1 + 1)]) w) hE67) hO214 (by simp only [InR, or_false]; omega)) hO217 (by simp only [InR, or_false]; omega)) hE276)⟩
theorem c_u_pick {A3 : Option Addr} {c3 : Nat} {slo3 shi3 : Nat} {b1 : Nat} {w : World} (pC : List Int) (p_c : Int × Int) (p_n : Int) (h2 : Box w b1 78 [.slice A3 pC.length c3, .int .i64 (p_c.1), .int .u64 (p_c.2)]) (h3 : RdS w (Iv slo3 shi3) (RF e_U8) 1 A3 pC.length c3 pC) (hrn4 : shi3 ≤ w.heap.size) (hrn5 : b1 < slo3 ∨ shi3 ≤ b1) (o6 : (okL okT) pC) (pre0 : (0 ≤ p_c.1 ∧ p_c.1 ≤ 4611686018427387902)) (pre1 : codeOk pC) : Cal Tryz.prog 50 #[.pointer (some ⟨b1, 0, none⟩), .int .i64 (p_n)] w fun v w' => v = .int .i64 ((u_pick pC p_c p_n).1) ∧ (0 ≤ (u_pick pC p_c p_n).1 ∧ (u_pick pC p_c p_n).1 ≤ 65535 ∧ ((u_pick pC p_c p_n).1 < p_n ∨ ((p_n : Int) ≤ 0 ∧ (u_pick pC p_c p_n).1 = 0))) ∧ (p_c.1 ≤ ((u_pick pC p_c p_n).2).1 ∧ ((u_pick pC p_c p_n).2).1 ≤ p_c.1 + 2) ∧ Box w' b1 78 [.slice A3 pC.length c3, .int .i64 (((u_pick pC p_c p_n).2).1), .int .u64 (((u_pick pC p_c p_n).2).2)] ∧ Chg (InR [(b1, b1 + 1)]) w w' := by
 have hol7 := o6.1
 have hbx8 := Box.lt h2
 refine Cal.of func50 rfl ntmps50 rfl (cR (sA rfl (dn (CW.seq (cR ?_)))))
 refine sM rfl (sd rfl (yl_leq rfl rfl rfl (dn (bcase (decide (p_n ≤ 1)) (fun hb9 => ?_) (fun hb9 => ?_)))))
 ·have hb9p := dec_t hb9
  refine CW.cond_t rfl hb9 (cR (sA rfl (dn (CW.ret (tr (rr rfl (.cons rfl .nil) ?_))))))
  have hM10 : (u_pick pC p_c p_n) = ((0, (p_c.1, p_c.2))) := by first | (simp only [u_pick, hb9, cL]; done) | (simp only [u_pick, hb9, cond_true, cond_false, loopE_done, loopE_ret, pairE]; done) | exact (show (u_pick pC p_c p_n) = ((0, p_c)) from by simp only [u_pick, hb9, cond_true, cond_false, loopE_done, loopE_ret, pairE])
  rw [hM10]
  exact ⟨rfl, (by (try dsimp only); first | omega | assumption | (simp only [wI] at *; omega)), (by (try dsimp only); first | omega | assumption | (simp only [wI] at *; omega)), h2, (Chg.refl (InR [(b1, b1 + 1)]) w)⟩
 ·have hb9p := dec_f hb9
  refine CW.cond_f rfl hb9 (CW.skip (tn (cR (sM rfl (sd rfl (yC en70 rfl (oc rfl oz) (Cal.mono (c_u_next pC p_c h2 h3 oM oM o6 oM (by assumption)) ?_)))))))
  rintro v14 w11 ⟨rfl, hp12, hp13, hB16, hc15⟩
  have hc15z := Chg.size hc15
  have hB16z := Box.lt hB16
  refine sA rfl (dn (CW.seq (cR (sM rfl (sd rfl (yl_gtr rfl rfl rfl (SeqR.done ?_)))))))
  refine tn (bcase (decide (200 < p_n)) (fun hb17 => ?_) (fun hb17 => ?_))
  ·have hb17p := dec_t hb17
   refine CW.cond_t rfl hb17 (CW.region (sM rfl (sd rfl (yl_mul rfl rfl rfl (sM rfl (sd rfl (yC en70 rfl (oc rfl oz) (Cal.mono (c_u_next pC ((u_next pC p_c).2) hB16 (RdS.chg gU h3 hc15 Bi) oM oM o6 oM (by assumption)) ?_))))))))
   rintro v22 w19 ⟨rfl, hp20, hp21, hB24, hc23⟩
   have hc23z := Chg.size hc23
   have hB24z := Box.lt hB24
   refine sd rfl (yl_add rfl rfl rfl (sA rfl (dn (cR (sM rfl (sM rfl ?_))))))
   have hrm25 := tmod_rng (a := (IntKind.wrap .i64 ((IntKind.wrap .i64 (((u_next pC p_c).1) * 256)) + ((u_next pC ((u_next pC p_c).2)).1)))) (b := p_n) Bo Bo
   refine sd rfl (yl_rem rfl rfl rfl Bo (sA rfl (dn (CW.ret (rr rfl (.cons rfl .nil) ?_)))))
   have hM26 : (u_pick pC p_c p_n) = ((Int.tmod (IntKind.wrap .i64 ((IntKind.wrap .i64 (((u_next pC p_c).1) * 256)) + ((u_next pC ((u_next pC p_c).2)).1))) p_n, (((u_next pC ((u_next pC p_c).2)).2).1, ((u_next pC ((u_next pC p_c).2)).2).2))) := by first | (simp only [u_pick, hb9, hb17, cL]; done) | (simp only [u_pick, hb9, hb17, cond_true, cond_false, loopE_done, loopE_ret, pairE]; done) | exact (show (u_pick pC p_c p_n) = ((Int.tmod (IntKind.wrap .i64 ((IntKind.wrap .i64 (((u_next pC p_c).1) * 256)) + ((u_next pC ((u_next pC p_c).2)).1))) p_n, ((u_next pC ((u_next pC p_c).2)).2))) from by simp only [u_pick, hb9, hb17, cond_true, cond_false, loopE_done, loopE_ret, pairE])
   rw [hM26]
   exact ⟨rfl, (by (try dsimp only); first | omega | assumption | (simp only [wI] at *; omega)), (by (try dsimp only); first | omega | assumption | (simp only [wI] at *; omega)), hB24, (Chg.tchg (Chg.tchg (Chg.refl (InR [(b1, b1 + 1)]) w) hc15 (fun k hk => by simp only [InR, or_false] at hk ⊢; omega)) hc23 (fun k hk => by simp only [InR, or_false] at hk ⊢; omega))⟩
  ·have hb17p := dec_f hb17
   refine CW.cond_f rfl hb17 (CW.skip (tn (cR (sM rfl (sM rfl ?_)))))
   have hrm29 := tmod_rng (a := ((u_next pC p_c).1)) (b := p_n) Bo Bo
   refine sd rfl (yl_rem rfl rfl rfl Bo (sA rfl (dn (CW.ret (rr rfl (.cons rfl .nil) ?_)))))
   have hM30 : (u_pick pC p_c p_n) = ((Int.tmod ((u_next pC p_c).1) p_n, (((u_next pC p_c).2).1, ((u_next pC p_c).2).2))) := by first | (simp only [u_pick, hb9, hb17, cL]; done) | (simp only [u_pick, hb9, hb17, cond_true, cond_false, loopE_done, loopE_ret, pairE]; done) | exact (show (u_pick pC p_c p_n) = ((Int.tmod ((u_next pC p_c).1) p_n, ((u_next pC p_c).2))) from by simp only [u_pick, hb9, hb17, cond_true, cond_false, loopE_done, loopE_ret, pairE])
   rw [hM30]
   exact ⟨rfl, (by (try dsimp only); first | omega | assumption | (simp only [wI] at *; omega)), (by (try dsimp only); first | omega | assumption | (simp only [wI] at *; omega)), hB16, (Chg.tchg (Chg.refl (InR [(b1, b1 + 1)]) w) hc15 (fun k hk => by simp only [InR, or_false] at hk ⊢; omega))⟩
theorem c_u_one {A3 : Option Addr} {c3 : Nat} {slo3 shi3 : Nat} {b1 : Nat} {w : World} (pC : List Int) (p_c : Int × Int) (p_n : Int) (h2 : Box w b1 78 [.slice A3 pC.length c3, .int .i64 (p_c.1), .int .u64 (p_c.2)]) (h3 : RdS w (Iv slo3 shi3) (RF e_U8) 1 A3 pC.length c3 pC) (hrn4 : shi3 ≤ w.heap.size) (hrn5 : b1 < slo3 ∨ shi3 ≤ b1) (o6 : (okL okT) pC) (pre0 : (0 ≤ p_c.1 ∧ p_c.1 ≤ 4611686018427387902)) (pre1 : codeOk pC) : Cal Tryz.prog 51 #[.pointer (some ⟨b1, 0, none⟩), .int .i64 (p_n)] w fun v w' => v = .bool ((u_one pC p_c p_n).1) ∧ (p_c.1 ≤ ((u_one pC p_c p_n).2).1 ∧ ((u_one pC p_c p_n).2).1 ≤ p_c.1 + 2) ∧ Box w' b1 78 [.slice A3 pC.length c3, .int .i64 (((u_one pC p_c p_n).2).1), .int .u64 (((u_one pC p_c p_n).2).2)] ∧ Chg (InR [(b1, b1 + 1)]) w w' := by
 have hol7 := o6.1
 have hbx8 := Box.lt h2
 refine Cal.of func51 rfl ntmps51 rfl (cR (sA rfl (dn (cR (sM rfl ?_)))))
 refine sM rfl (sd rfl (yC en50 rfl (oc rfl (oc rfl oz)) (Cal.mono (c_u_pick pC p_c p_n h2 h3 oM oM o6 oM (by assumption)) ?_)))
 rintro v12 w9 ⟨rfl, hp10, hp11, hB14, hc13⟩
 have hc13z := Chg.size hc13
 have hB14z := Box.lt hB14
 refine sd rfl (yl_eql rfl rfl rfl (sA rfl (dn (CW.ret (rr rfl (.cons rfl .nil) ?_)))))
 have hM15 : (u_one pC p_c p_n) = ((decide (((u_pick pC p_c p_n).1) = 0), (((u_pick pC p_c p_n).2).1, ((u_pick pC p_c p_n).2).2))) := by first | (simp only [u_one, cL]; done) | (simp only [u_one, cond_true, cond_false, loopE_done, loopE_ret, pairE]; done) | exact (show (u_one pC p_c p_n) = ((decide (((u_pick pC p_c p_n).1) = 0), ((u_pick pC p_c p_n).2))) from by simp only [u_one, cond_true, cond_false, loopE_done, loopE_ret, pairE])
 rw [hM15]
 exact ⟨rfl, (by (try dsimp only); first | omega | assumption | (simp only [wI] at *; omega)), hB14, (Chg.tchg (Chg.refl (InR [(b1, b1 + 1)]) w) hc13 (fun k hk => by simp only [InR, or_false] at hk ⊢; omega))⟩
theorem c_u_of {A3 : Option Addr} {c3 : Nat} {slo3 shi3 : Nat} {b1 : Nat} {A7 : Option Addr} {c7 : Nat} {slo7 shi7 : Nat} {w : World} (pC : List Int) (p_c : Int × Int) (p_list : List Str) (h2 : Box w b1 78 [.slice A3 pC.length c3, .int .i64 (p_c.1), .int .u64 (p_c.2)]) (h3 : RdS w (Iv slo3 shi3) (RF e_U8) 1 A3 pC.length c3 pC) (hrn4 : shi3 ≤ w.heap.size) (hrn5 : b1 < slo3 ∨ shi3 ≤ b1) (h7 : RdS w (Iv slo7 shi7) (RF e_Str) 1 A7 p_list.length c7 p_list) (hrn8 : shi7 ≤ w.heap.size) (hrn9 : b1 < slo7 ∨ shi7 ≤ b1) (o6 : (okL okT) pC) (o10 : (okL okS) p_list) (pre0 : 0 < p_list.length) (pre1 : (0 ≤ p_c.1 ∧ p_c.1 ≤ 4611686018427387902)) (pre2 : codeOk pC) : Cal Tryz.prog 59 #[.pointer (some ⟨b1, 0, none⟩), .slice A7 p_list.length c7] w fun v w' => v = .string (bs ((u_of pC p_c p_list).1)) ∧ okS ((u_of pC p_c p_list).1) ∧ (p_c.1 ≤ ((u_of pC p_c p_list).2).1 ∧ ((u_of pC p_c p_list).2).1 ≤ p_c.1 + 2) ∧ Box w' b1 78 [.slice A3 pC.length c3, .int .i64 (((u_of pC p_c p_list).2).1), .int .u64 (((u_of pC p_c p_list).2).2)] ∧ Chg (InR [(b1, b1 + 1)]) w w' := by
 have hol11 := o6.1
 have hbx12 := Box.lt h2
 have hol13 := o10.1
 refine Cal.of func59 rfl ntmps59 rfl (cR (sA rfl (dn (cR (sM rfl ?_)))))
 refine sM rfl (sM rfl (sd rfl (yL un23 rfl rfl (sd rfl (yC en50 rfl (oc rfl (oc rfl oz)) (Cal.mono (c_u_pick pC p_c (p_list.length : Int) h2 h3 oM oM o6 oM (by assumption)) ?_))))))
 rintro v17 w14 ⟨rfl, hp15, hp16, hB19, hc18⟩
 have hc18z := Chg.size hc18
 have hB19z := Box.lt hB19
 obtain ⟨eb21, eo21, _, eA21, _, ebl21, _, eR21, eC21⟩ := RdS.atD (RdS.chg gS h7 hc18 Bi) d_Str (i := ((u_pick pC p_c (p_list.length : Int)).1).toNat) Bo
 obtain rfl := eR21
 have eC21 : Cells w14 eb21 (eo21 + (((u_pick pC p_c (p_list.length : Int)).1).toNat) * 1) [.string (bs ((p_list.getD (((u_pick pC p_c (p_list.length : Int)).1).toNat) d_Str)))] := eC21
 refine sd rfl (yl_indexAddr un23 ty9 rfl rfl rfl eA21 Bo Bo (sd rfl (yl_load1 ty9 rfl rfl (eC21 0 _ rfl) (sA rfl (dn (CW.ret (rr rfl (.cons rfl .nil) ?_)))))))
 have hM22 : (u_of pC p_c p_list) = (((p_list.getD (((u_pick pC p_c (p_list.length : Int)).1).toNat) d_Str), (((u_pick pC p_c (p_list.length : Int)).2).1, ((u_pick pC p_c (p_list.length : Int)).2).2))) := by first | (simp only [u_of, cL]; done) | (simp only [u_of, cond_true, cond_false, loopE_done, loopE_ret, pairE]; done) | exact (show (u_of pC p_c p_list) = (((p_list.getD (((u_pick pC p_c (p_list.length : Int)).1).toNat) d_Str), ((u_pick pC p_c (p_list.length : Int)).2))) from by simp only [u_of, cond_true, cond_false, loopE_done, loopE_ret, pairE])
 rw [hM22]
 exact ⟨rfl, (okL.getD o10 ok_d_Str _), (by (try dsimp only); first | omega | assumption | (simp only [wI] at *; omega)), hB19, (Chg.tchg (Chg.refl (InR [(b1, b1 + 1)]) w) hc18 (fun k hk => by simp only [InR, or_false] at hk ⊢; omega))⟩
theorem c_u_table {A3 : Option Addr} {c3 : Nat} {slo3 shi3 : Nat} {b1 : Nat} {w : World} (pC : List Int) (p_c : Int × Int) (h2 : Box w b1 78 [.slice A3 pC.length c3, .int .i64 (p_c.1), .int .u64 (p_c.2)]) (h3 : RdS w (Iv slo3 shi3) (RF e_U8) 1 A3 pC.length c3 pC) (hrn4 : shi3 ≤ w.heap.size) (hrn5 : b1 < slo3 ∨ shi3 ≤ b1) (o6 : (okL okT) pC) (pre0 : (0 ≤ p_c.1 ∧ p_c.1 ≤ 4611686018427387840)) (pre1 : codeOk pC) : Cal Tryz.prog 52 #[.pointer (some ⟨b1, 0, none⟩)] w fun v w' => ∃ A_1 c_1 lo_1 hi_1 A_2 c_2 lo_2 hi_2, v = .agg #[.string (bs ((u_table pC p_c).1.Name)), .slice A_1 (((u_table pC p_c).1.Cols).length) c_1, .slice A_2 (((u_table pC p_c).1.Idxs).length) c_2] ∧ OwnL w' lo_1 hi_1 9 1 (RF e_Str) A_1 (((u_table pC p_c).1.Cols).length) c_1 ((u_table pC p_c).1.Cols) ∧ OwnL w' lo_2 hi_2 35 3 (RF e_Idx) A_2 (((u_table pC p_c).1.Idxs).length) c_2 ((u_table pC p_c).1.Idxs) ∧ ok_Table ((u_table pC p_c).1) ∧ ((u_table pC p_c).1).Name.length ≤ 1 ∧ (2 ≤ ((u_table pC p_c).1).Cols.length ∧ ((u_table pC p_c).1).Cols.length ≤ 4 ∧ ((u_table pC p_c).1).Idxs.length ≤ 3) ∧ (p_c.1 ≤ ((u_table pC p_c).2).1 ∧ ((u_table pC p_c).2).1 ≤ p_c.1 + 64) ∧ Box w' b1 78 [.slice A3 pC.length c3, .int .i64 (((u_table pC p_c).2).1), .int .u64 (((u_table pC p_c).2).2)] ∧ (w.heap.size ≤ lo_1 ∧ lo_1 ≤ hi_1 ∧ hi_1 ≤ w'.heap.size) ∧ (w.heap.size ≤ lo_2 ∧ lo_2 ≤ hi_2 ∧ hi_2 ≤ w'.heap.size) ∧ (hi_1 ≤ lo_2 ∨ hi_2 ≤ lo_1) ∧ Chg (InR [(b1, b1 + 1)]) w w' := by
 have hol7 := o6.1
 have hbx8 := Box.lt h2
 refine Cal.of func52 rfl ntmps52 rfl (cR (sd rfl (yB ty26 (cs := [.string (bs (([] : Str))), .slice none 0 0, .slice none 0 0]) rfl rfl ?_)))
 intro b9 w10 hs11 hz12 hB13 hE14
 refine dn (cR (sd rfl (yl_buildSlice (cs := [.string (bs (([107] : Str))), .string (bs (([97] : Str))), .string (bs (([98] : Str))), .string (bs (([99, 99] : Str)))]) un23 ty9 (by decide) rfl (oc rfl (oc rfl (oc rfl (oc rfl oz)))) (by kernel_rfl) ?_)))
 intro b15 w16 hs17 hz18 hB19 hE20
 have hO21 : OwnL w16 b15 (b15 + 1) 9 1 (RF e_Str) (some ⟨b15, 0, none⟩) 4 4 ([[107], [97], [98], [99, 99]] : List Str) := OwnL.of_box (S := fun _ => False) hB19 (Nat.le_refl _) (Nat.lt_succ_self _) (EncL.cons (c := [.string (bs (([107] : Str)))]) rfl rfl (EncL.cons (c := [.string (bs (([97] : Str)))]) rfl rfl (EncL.cons (c := [.string (bs (([98] : Str)))]) rfl rfl (EncL.cons (c := [.string (bs (([99, 99] : Str)))]) rfl rfl EncL.nil)))) (nb rfl) (fun h => h) (fun _ h => False.elim h)
 refine sA rfl (dn (cR (sM rfl (sd rfl (yl_buildSlice (cs := [.string (bs (([116] : Str))), .string (bs (([117] : Str)))]) un23 ty9 (by decide) rfl (oc rfl (oc rfl oz)) (by kernel_rfl) ?_)))))
 intro b22 w23 hs24 hz25 hB26 hE27
 have hO28 : OwnL w23 b22 (b22 + 1) 9 1 (RF e_Str) (some ⟨b22, 0, none⟩) 2 2 ([[116], [117]] : List Str) := OwnL.of_box (S := fun _ => False) hB26 (Nat.le_refl _) (Nat.lt_succ_self _) (EncL.cons (c := [.string (bs (([116] : Str)))]) rfl rfl (EncL.cons (c := [.string (bs (([117] : Str)))]) rfl rfl EncL.nil)) (nb rfl) (fun h => h) (fun _ h => False.elim h)
 have q34 := RdS.ex gU (RdS.ex gU (RdS.ex gU h3 hE14) hE20) hE27
 have hle35 := OwnL.len hO28
 refine sd rfl (yC en59 rfl (oc rfl (oc rfl oz)) (Cal.mono (Cal.args (by rw [← hle35] <;> rfl) (c_u_of pC p_c ([[116], [117]] : List Str) (Box.ex (Box.ex (Box.ex h2 hE14) hE20) hE27) q34 oM oM (RdS.fix (OwnL.rdI gS hO28)) oM oM o6 (okL.mk (nb rfl) (okE.cons (okS.lit rfl) (okE.cons (okS.lit rfl) okE.nil))) (by first | omega | assumption | (simp only [wI] at *; omega) | (simp only [lN]; omega)) oM (by assumption))) ?_))
 rintro v39 w36 ⟨rfl, ho37, hp38, hB41, hc40⟩
 have hc40z := Chg.size hc40
 have hB41z := Box.lt hB41
 have hrf42 := of_len 1 pC p_c ([[116], [117]] : List Str) (by decide)
 refine sd rfl (yl_buildSlice (cs := []) un23 ty9 (by decide) rfl opvs_nil (by kernel_rfl) ?_)
 intro b43 w44 hs45 hz46 hB47 hE48
 have hO49 : OwnL w44 b43 (b43 + 1) 9 1 (RF e_Str) (some ⟨b43, 0, none⟩) 0 0 ([] : List Str) := OwnL.of_box (S := fun _ => False) hB47 (Nat.le_refl _) (Nat.lt_succ_self _) EncL.nil (nb rfl) (fun h => h) (fun _ h => False.elim h)
 refine sM rfl (sM rfl ?_)
 have q52 := RdS.ex gU (RdS.chg gU q34 hc40 Bi) hE48
 refine sd rfl (yC en50 rfl (oc rfl (oc rfl oz)) (Cal.mono (c_u_pick pC ((u_of pC p_c ([[116], [117]] : List Str)).2) 3 (Box.ex hB41 hE48) q52 oM oM o6 oM (by assumption)) ?_))
 rintro v56 w53 ⟨rfl, hp54, hp55, hB58, hc57⟩
 have hc57z := Chg.size hc57
 have hB58z := Box.lt hB58
 refine sd rfl (yl_add rfl rfl rfl ?_)
 have q64 := OwnL.rdI gS (OwnL.chg gS (OwnL.ex gS (OwnL.chg gS (OwnL.ex gS hO21 hE27) hc40 Bk) hE48) hc57 Bk)
 obtain ⟨A65, c66, he69, h68⟩ := RdS.sl (RdS.drop (RdS.take q64 (k := (IntKind.wrap .i64 (2 + ((u_pick pC ((u_of pC p_c ([[116], [117]] : List Str)).2) 3).1))).toNat) Bo) (k := 0) Bo)
 have hrc70 := (q64).2.1
 refine sd rfl (yl_sliceR (kl := .i64) (l := 0) (h := (IntKind.wrap .i64 (2 + ((u_pick pC ((u_of pC p_c ([[116], [117]] : List Str)).2) 3).1))).toNat) un23 ty9 rfl rfl (.inl ⟨rfl, rfl⟩) (.inr ⟨_, rfl, (toNat_op rfl Bo)⟩) Bo Bo he69 ?_)
 obtain ⟨nw72, he73, hs74⟩ := RdS.src h68
 have hol75 : (([[107], [97], [98], [99, 99]] : List Str).take ((IntKind.wrap .i64 (2 + ((u_pick pC ((u_of pC p_c ([[116], [117]] : List Str)).2) 3).1))).toNat)).length ≤ 2147483648 := (okL.take (okL.mk (nb rfl) (okE.cons (okS.lit rfl) (okE.cons (okS.lit rfl) (okE.cons (okS.lit rfl) (okE.cons (okS.lit rfl) okE.nil))))) _).1
 refine sd rfl (yl_appendP (S := fun _ => False) (lo := b43) (hi := (b43 + 1)) (xs := ([] : List Str)) (ys := (([[107], [97], [98], [99, 99]] : List Str).take ((IntKind.wrap .i64 (2 + ((u_pick pC ((u_of pC p_c ([[116], [117]] : List Str)).2) 3).1))).toNat))) un23 ty9 rfl (nb rfl) (fun _ => rfl) rfl rfl rfl (OwnL.chg gS hO49 hc57 Bk) he73 hs74 rfl Bl Bl oM oM oM ?_)
 intro A76 c77 w78 row79 lp80 hp81 hO82 hG83 hrg84 hdj85
 have hG83z := hG83.size
 refine sd rfl (yl_build (cs := [.string (bs ((u_of pC p_c ([[116], [117]] : List Str)).1)), .slice A76 ((([] : List Str) ++ (([[107], [97], [98], [99, 99]] : List Str).take ((IntKind.wrap .i64 (2 + ((u_pick pC ((u_of pC p_c ([[116], [117]] : List Str)).2) 3).1))).toNat))).length) c77, .slice none 0 0]) rfl (oc rfl (oc rfl oz)) (by kernel_rfl) (sd rfl (yB ty26 (cs := [.string (bs (([] : Str))), .slice none 0 0, .slice none 0 0]) rfl rfl ?_)))
 intro b86 w87 hs88 hz89 hB90 hE91
 refine SeqR.u rfl rfl (yl_store (vs := [.string (bs ((u_of pC p_c ([[116], [117]] : List Str)).1)), .slice A76 ((([] : List Str) ++ (([[107], [97], [98], [99, 99]] : List Str).take ((IntKind.wrap .i64 (2 + ((u_pick pC ((u_of pC p_c ([[116], [117]] : List Str)).2) 3).1))).toNat))).length) c77, .slice none 0 0]) ty26 rfl rfl rfl rfl rfl rfl hB90 (nb rfl) ?_)
 intro w92 hB93 hO94
 have hB93 : Box w92 b86 26 [.string (bs ((u_of pC p_c ([[116], [117]] : List Str)).1)), .slice A76 ((([] : List Str) ++ (([[107], [97], [98], [99, 99]] : List Str).take ((IntKind.wrap .i64 (2 + ((u_pick pC ((u_of pC p_c ([[116], [117]] : List Str)).2) 3).1))).toNat))).length) c77, .slice none 0 0] := hB93
 have hO94z := hO94.size
 refine dn (CW.seq (cR (sd rfl (yl_buildSlice (cs := [.string (bs (([105] : Str))), .string (bs (([106] : Str))), .string (bs (([109] : Str)))]) un23 ty9 (by decide) rfl (oc rfl (oc rfl (oc rfl oz))) (by kernel_rfl) ?_))))
 intro b95 w96 hs97 hz98 hB99 hE100
 have hO101 : OwnL w96 b95 (b95 + 1) 9 1 (RF e_Str) (some ⟨b95, 0, none⟩) 3 3 ([[105], [106], [109]] : List Str) := OwnL.of_box (S := fun _ => False) hB99 (Nat.le_refl _) (Nat.lt_succ_self _) (EncL.cons (c := [.string (bs (([105] : Str)))]) rfl rfl (EncL.cons (c := [.string (bs (([106] : Str)))]) rfl rfl (EncL.cons (c := [.string (bs (([109] : Str)))]) rfl rfl EncL.nil))) (nb rfl) (fun h => h) (fun _ h => False.elim h)
 refine sd rfl (yL un23 rfl rfl (sM rfl (dn (CW.block ?_))))
 have q188 := Box.ex (Box.ex hB13 hE20) hE27
 have q190 := Box.ex (Box.chg q188 hc40 (Bx (Box.lt q188))) hE48
 have q209 := Chg.tex (Chg.tonly (Chg.tex (Chg.tgrown (Chg.tchg (Chg.tex (Chg.tchg (Chg.tex (Chg.tex (Chg.tex (Chg.refl (InR [(b1, b1 + 1)]) w) hE14) hE20) hE27) hc40 (fun k hk => by simp only [InR, or_false] at hk ⊢; omega)) hE48) hc57 (fun k hk => by simp only [InR, or_false] at hk ⊢; omega)) hG83 (fun k hk => by have := hrg84 k hk; simp only [InR, or_false]; omega)) hE91) hO94 (by simp only [InR, or_false]; omega)) hE100
 refine CW.loop (fun m175 L176 w177 => ∃ (k102 : Nat) (x168 : Int) (x169 : Int) (x170 : List DIdx) (A171 : Option Addr) (c172 : Nat) (u173 : Nat) (lo174 : Nat), m175 = 3 - k102 ∧ k102 ≤ 3 ∧ w96.heap.size ≤ w177.heap.size ∧ lkp L176 0 = some (.pointer (some ⟨b1, 0, none⟩)) ∧ lkp L176 2 = some (.pointer (some ⟨b9, 0, none⟩)) ∧ lkp L176 4 = some (.pointer (some ⟨b86, 0, none⟩)) ∧ lkp L176 19 = some (.slice (some ⟨b95, 0, none⟩) 3 3) ∧ lkp L176 20 = some (.int .i64 ((3 : Int))) ∧ lkp L176 21 = some (.int .i64 ((k102 : Int))) ∧ Box w177 b1 78 [.slice A3 pC.length c3, .int .i64 (x168), .int .u64 (x169)] ∧ RdS w177 (Iv slo3 shi3) (RF e_U8) 1 A3 pC.length c3 pC ∧ Box w177 b9 26 [.string (bs (([] : Str))), .slice none 0 0, .slice none 0 0] ∧ Box w177 b86 26 [.string (bs ((u_of pC p_c ([[116], [117]] : List Str)).1)), .slice A76 ((([] : List Str) ++ (([[107], [97], [98], [99, 99]] : List Str).take ((IntKind.wrap .i64 (2 + ((u_pick pC ((u_of pC p_c ([[116], [117]] : List Str)).2) 3).1))).toNat))).length) c77, .slice A171 x170.length c172] ∧ OwnL w177 lp80 hp81 9 1 (RF e_Str) A76 ((([] : List Str) ++ (([[107], [97], [98], [99, 99]] : List Str).take ((IntKind.wrap .i64 (2 + ((u_pick pC ((u_of pC p_c ([[116], [117]] : List Str)).2) 3).1))).toNat))).length) c77 (([] : List Str) ++ (([[107], [97], [98], [99, 99]] : List Str).take ((IntKind.wrap .i64 (2 + ((u_pick pC ((u_of pC p_c ([[116], [117]] : List Str)).2) 3).1))).toNat))) ∧ OwnL w177 lo174 u173 35 3 (RF e_Idx) A171 x170.length c172 x170 ∧ OwnL w177 b95 (b95 + 1) 9 1 (RF e_Str) (some ⟨b95, 0, none⟩) 3 3 ([[105], [106], [109]] : List Str) ∧ Chg (InR [(b1, b1 + 1)]) w w177 ∧ (w96.heap.size ≤ lo174 ∧ lo174 ≤ u173 ∧ u173 ≤ w177.heap.size ∧ (b1 < lo174 ∨ u173 ≤ b1) ∧ (b9 < lo174 ∨ u173 ≤ b9) ∧ (b86 < lo174 ∨ u173 ≤ b86) ∧ (hp81 ≤ lo174 ∨ u173 ≤ lp80) ∧ ((b95 + 1) ≤ lo174 ∨ u173 ≤ b95)) ∧ x170.length ≤ 0 + 1 * (k102 - 0) ∧ (∀ y ∈ x170, ok_Idx y) ∧ (p_c.1 ≤ x168 ∧ x168 ≤ p_c.1 + 4 + 8 * (k102 : Int)) ∧ loopM (B_u_table_0 pC p_c) (3 - k102) k102 (x168, x169, x170) = loopM (B_u_table_0 pC p_c) (3 - 0) 0 (((u_pick pC ((u_of pC p_c ([[116], [117]] : List Str)).2) 3).2).1, ((u_pick pC ((u_of pC p_c ([[116], [117]] : List Str)).2) 3).2).2, ([] : List DIdx))) (3 - 0) ?_ ?_
 ·exact ⟨0, ((u_pick pC ((u_of pC p_c ([[116], [117]] : List Str)).2) 3).2).1, ((u_pick pC ((u_of pC p_c ([[116], [117]] : List Str)).2) 3).2).2, ([] : List DIdx), none, 0, w96.heap.size, w96.heap.size, rfl, oM, Nat.le_refl _, rfl, rfl, rfl, rfl, rfl, rfl, (Box.ex (Box.only (Box.ex (Box.grown hB58 hG83 (fun k hk => by have := hrg84 k hk; omega)) hE91) hO94 oM) hE100), (RdS.ex gU (RdS.only gU (RdS.ex gU (RdS.grown gU (RdS.chg gU q52 hc57 Bi) hG83 (fun k hk => by have := hrg84 k hk; simp only [Iv]; omega)) hE91) hO94 (by simp only [Iv]; omega)) hE100), (Box.ex (Box.only (Box.ex (Box.grown (Box.chg q190 hc57 (Bx (Box.lt q190))) hG83 (fun k hk => by have := hrg84 k hk; omega)) hE91) hO94 oM) hE100), (Box.ex hB93 hE100), (OwnL.ex gS (OwnL.only gS (OwnL.ex gS hO82 hE91) hO94 oM) hE100), (OwnL.nil w96 w96.heap.size w96.heap.size 35 3 (RF e_Idx)), hO101, q209, oM, (by first | (simp; done) | (first | omega | (simp only [lN, toS_length]; omega))), okE.nil, Bo, rfl⟩
 ·rintro m210 L211 w212 ⟨k102, x168, x169, x170, A171, c172, u173, lo174, rfl, hk213, hsz215, hl216, hl217, hl218, hl219, hl220, hl221, hf222, hf223, hf224, hf225, hf226, hf227, hf228, hf229, hu230, hln231, hok232, hv233, hI214⟩
  refine CW.sub (Sub.cons hl216 (Sub.cons hl217 (Sub.cons hl218 (Sub.cons hl219 (Sub.cons hl220 (Sub.cons hl221 (Sub.nil _))))))) ?_
  have hf222z := Box.lt hf222
  have hf224z := Box.lt hf224
  have hf225z := Box.lt hf225
  have hf229z := Chg.size hf229
  rcases Nat.lt_or_ge k102 3 with hlt234 | hlt234
  ·refine cR (sd rfl (yl_lss rfl rfl rfl (dn (CW.seq (CW.cond_t rfl (lt_t hlt234) (CW.skip (tn ?_)))))))
   refine CW.seq (CW.block (cR ?_))
   obtain ⟨eb236, eo236, _, eA236, _, ebl236, _, eR236, eC236⟩ := RdS.atD (OwnL.rd gS hf228) d_Str (i := k102) Bo
   obtain rfl := eR236
   have eC236 : Cells w212 eb236 (eo236 + k102 * 1) [.string (bs ((([[105], [106], [109]] : List Str).getD k102 d_Str)))] := eC236
   refine sd rfl (yl_ixN un23 ty9 rfl rfl rfl eA236 (sd rfl (yl_load1 ty9 rfl rfl (eC236 0 _ rfl) (sA rfl (dn (cR (sM rfl (sd rfl (yC en51 rfl (oc rfl (oc rfl oz)) (Cal.mono (c_u_one pC (x168, x169) 3 hf222 hf223 oM oM o6 oM (by assumption)) ?_))))))))))
   rintro v239 w237 ⟨rfl, hp238, hB241, hc240⟩
   have hc240z := Chg.size hc240
   have hB241z := Box.lt hB241
   refine sd rfl (yl_not rfl rfl (sM rfl (bcase ((u_one pC (x168, x169) 3).1) (fun hb242 => ?_) (fun hb242 => ?_))))
   ·refine sy rfl rfl (not_t hb242) (yM rfl rfl (sy rfl rfl (not_t hb242) (yl_seql (a := (([[105], [106], [109]] : List Str).getD k102 d_Str)) (b := ([105] : Str)) rfl rfl rfl (sy rfl rfl (not_t hb242) (yM rfl rfl (bcase ((([[105], [106], [109]] : List Str).getD k102 d_Str) == ([105] : Str)) (fun hb243 => ?_) (fun hb243 => ?_)))))))
    ·refine sy rfl rfl hb243 (yM rfl rfl ?_)
     have q244 := RdS.chg gU hf223 hc240 Bi
     refine sy rfl rfl hb243 (yC en51 rfl (oc rfl (oc rfl oz)) (Cal.mono (c_u_one pC ((u_one pC (x168, x169) 3).2) 8 hB241 q244 oM oM o6 oM (by assumption)) ?_))
     rintro v247 w245 ⟨rfl, hp246, hB249, hc248⟩
     have hc248z := Chg.size hc248
     have hB249z := Box.lt hB249
     refine sy rfl rfl hb243 (yl_not rfl rfl (sy rfl rfl (not_t hb242) (yl_pick_t rfl rfl hb243 rfl (sd rfl (yl_pick_f rfl rfl (not_t hb242) rfl (dn (bcase ((u_one pC ((u_one pC (x168, x169) 3).2) 8).1) (fun hb250 => ?_) (fun hb250 => ?_))))))))
     ·refine CW.cond_f rfl (not_t hb250) (CW.skip (bn (tn (CW.region (sd rfl (yl_inc rfl rfl rfl oM (sM rfl (dn ?_))))))))
      have hB251 : B_u_table_0 pC p_c k102 (x168, x169, x170) = .cont (((u_one pC ((u_one pC (x168, x169) 3).2) 8).2).1, ((u_one pC ((u_one pC (x168, x169) 3).2) 8).2).2, x170) := by simp only [B_u_table_0, hb242, hb243, hb250, cL]
      have q253 := Box.chg hf224 hc240 (Bx (Box.lt hf224))
      have q255 := Box.chg hf225 hc240 (Bx (Box.lt hf225))
      exact ⟨3 - (k102 + 1), oM, k102 + 1, ((u_one pC ((u_one pC (x168, x169) 3).2) 8).2).1, ((u_one pC ((u_one pC (x168, x169) 3).2) 8).2).2, x170, A171, c172, u173, lo174, rfl, hlt234, oM, rfl, rfl, rfl, rfl, rfl, rfl, hB249, (RdS.chg gU q244 hc248 Bi), (Box.chg q253 hc248 (Bx (Box.lt q253))), (Box.chg q255 hc248 (Bx (Box.lt q255))), (OwnL.chg gS (OwnL.chg gS hf226 hc240 Bk) hc248 Bk), (OwnL.chg gI (OwnL.chg gI hf227 hc240 Bk) hc248 Bk), (OwnL.chg gS (OwnL.chg gS hf228 hc240 Bk) hc248 Bk), (Chg.tchg (Chg.tchg hf229 hc240 (fun k hk => by simp only [InR, or_false] at hk ⊢; omega)) hc248 (fun k hk => by simp only [InR, or_false] at hk ⊢; omega)), oM, Bl, hok232, Bo, (loopM.cont hlt234 hB251).symm.trans hI214⟩
     ·refine CW.cond_t rfl (not_f hb250) ?_
      have q265 := Box.chg hf225 hc240 (Bx (Box.lt hf225))
      have q266 := Box.chg q265 hc248 (Bx (Box.lt q265))
      have q267 := RdS.chg gU q244 hc248 Bi
      refine CW.drawsG 14 (fun G b => (G.dn 8 = true ∧ InR [(b1, b1 + 1)] b) ∨ (G.dn 11 = true ∧ InR [(b1, b1 + 1)] b)) (fun i G b => (i = 8 ∧ b1 ≤ b ∧ b < b1 + 1) ∨ (i = 11 ∧ b1 ≤ b ∧ b < b1 + 1)) (vgetG [DetG (.pointer (some ⟨b86, 0 + 2, none⟩)), DetG (.slice A171 x170.length c172), DetG (.string (bs ((([[105], [106], [109]] : List Str).getD k102 d_Str)))), DetG (.pointer (some ⟨b1, 0, none⟩)), DetG (.pointer (some ⟨b86, 0 + 1, none⟩)), DetG (.slice A76 ((([] : List Str) ++ (([[107], [97], [98], [99, 99]] : List Str).take ((IntKind.wrap .i64 (2 + ((u_pick pC ((u_of pC p_c ([[116], [117]] : List Str)).2) 3).1))).toNat))).length) c77), DetG (.int .i64 (((([] : List Str) ++ (([[107], [97], [98], [99, 99]] : List Str).take ((IntKind.wrap .i64 (2 + ((u_pick pC ((u_of pC p_c ([[116], [117]] : List Str)).2) 3).1))).toNat))).length : Int))), DetG (.int .i64 (IntKind.wrap .i64 (((([] : List Str) ++ (([[107], [97], [98], [99, 99]] : List Str).take ((IntKind.wrap .i64 (2 + ((u_pick pC ((u_of pC p_c ([[116], [117]] : List Str)).2) 3).1))).toNat))).length : Int) - 1))), fun G v wq => v = .int .i64 ((u_pick pC ((u_one pC ((u_one pC (x168, x169) 3).2) 8).2) (IntKind.wrap .i64 (((([] : List Str) ++ (([[107], [97], [98], [99, 99]] : List Str).take ((IntKind.wrap .i64 (2 + ((u_pick pC ((u_of pC p_c ([[116], [117]] : List Str)).2) 3).1))).toNat))).length : Int) - 1))).1) ∧ (0 ≤ (u_pick pC ((u_one pC ((u_one pC (x168, x169) 3).2) 8).2) (IntKind.wrap .i64 (((([] : List Str) ++ (([[107], [97], [98], [99, 99]] : List Str).take ((IntKind.wrap .i64 (2 + ((u_pick pC ((u_of pC p_c ([[116], [117]] : List Str)).2) 3).1))).toNat))).length : Int) - 1))).1 ∧ (u_pick pC ((u_one pC ((u_one pC (x168, x169) 3).2) 8).2) (IntKind.wrap .i64 (((([] : List Str) ++ (([[107], [97], [98], [99, 99]] : List Str).take ((IntKind.wrap .i64 (2 + ((u_pick pC ((u_of pC p_c ([[116], [117]] : List Str)).2) 3).1))).toNat))).length : Int) - 1))).1 ≤ 65535 ∧ ((u_pick pC ((u_one pC ((u_one pC (x168, x169) 3).2) 8).2) (IntKind.wrap .i64 (((([] : List Str) ++ (([[107], [97], [98], [99, 99]] : List Str).take ((IntKind.wrap .i64 (2 + ((u_pick pC ((u_of pC p_c ([[116], [117]] : List Str)).2) 3).1))).toNat))).length : Int) - 1))).1 < IntKind.wrap .i64 (((([] : List Str) ++ (([[107], [97], [98], [99, 99]] : List Str).take ((IntKind.wrap .i64 (2 + ((u_pick pC ((u_of pC p_c ([[116], [117]] : List Str)).2) 3).1))).toNat))).length : Int) - 1) ∨ ((IntKind.wrap .i64 (((([] : List Str) ++ (([[107], [97], [98], [99, 99]] : List Str).take ((IntKind.wrap .i64 (2 + ((u_pick pC ((u_of pC p_c ([[116], [117]] : List Str)).2) 3).1))).toNat))).length : Int) - 1) : Int) ≤ 0 ∧ (u_pick pC ((u_one pC ((u_one pC (x168, x169) 3).2) 8).2) (IntKind.wrap .i64 (((([] : List Str) ++ (([[107], [97], [98], [99, 99]] : List Str).take ((IntKind.wrap .i64 (2 + ((u_pick pC ((u_of pC p_c ([[116], [117]] : List Str)).2) 3).1))).toNat))).length : Int) - 1))).1 = 0))) ∧ (((u_one pC ((u_one pC (x168, x169) 3).2) 8).2).1 ≤ ((u_pick pC ((u_one pC ((u_one pC (x168, x169) 3).2) 8).2) (IntKind.wrap .i64 (((([] : List Str) ++ (([[107], [97], [98], [99, 99]] : List Str).take ((IntKind.wrap .i64 (2 + ((u_pick pC ((u_of pC p_c ([[116], [117]] : List Str)).2) 3).1))).toNat))).length : Int) - 1))).2).1 ∧ ((u_pick pC ((u_one pC ((u_one pC (x168, x169) 3).2) 8).2) (IntKind.wrap .i64 (((([] : List Str) ++ (([[107], [97], [98], [99, 99]] : List Str).take ((IntKind.wrap .i64 (2 + ((u_pick pC ((u_of pC p_c ([[116], [117]] : List Str)).2) 3).1))).toNat))).length : Int) - 1))).2).1 ≤ ((u_one pC ((u_one pC (x168, x169) 3).2) 8).2).1 + 2) ∧ (G.dn 11 = false → Box wq b1 78 [.slice A3 pC.length c3, .int .i64 (((u_pick pC ((u_one pC ((u_one pC (x168, x169) 3).2) 8).2) (IntKind.wrap .i64 (((([] : List Str) ++ (([[107], [97], [98], [99, 99]] : List Str).take ((IntKind.wrap .i64 (2 + ((u_pick pC ((u_of pC p_c ([[116], [117]] : List Str)).2) 3).1))).toNat))).length : Int) - 1))).2).1), .int .u64 (((u_pick pC ((u_one pC ((u_one pC (x168, x169) 3).2) 8).2) (IntKind.wrap .i64 (((([] : List Str) ++ (([[107], [97], [98], [99, 99]] : List Str).take ((IntKind.wrap .i64 (2 + ((u_pick pC ((u_of pC p_c ([[116], [117]] : List Str)).2) 3).1))).toNat))).length : Int) - 1))).2).2)]), DetG (.int .i64 (IntKind.wrap .i64 (1 + ((u_pick pC ((u_one pC ((u_one pC (x168, x169) 3).2) 8).2) (IntKind.wrap .i64 (((([] : List Str) ++ (([[107], [97], [98], [99, 99]] : List Str).take ((IntKind.wrap .i64 (2 + ((u_pick pC ((u_of pC p_c ([[116], [117]] : List Str)).2) 3).1))).toNat))).length : Int) - 1))).1)))), DetG (.pointer (some ⟨b1, 0, none⟩)), fun G v wq => v = .int .i64 ((u_pick pC ((u_pick pC ((u_one pC ((u_one pC (x168, x169) 3).2) 8).2) (IntKind.wrap .i64 (((([] : List Str) ++ (([[107], [97], [98], [99, 99]] : List Str).take ((IntKind.wrap .i64 (2 + ((u_pick pC ((u_of pC p_c ([[116], [117]] : List Str)).2) 3).1))).toNat))).length : Int) - 1))).2) 4).1) ∧ (0 ≤ (u_pick pC ((u_pick pC ((u_one pC ((u_one pC (x168, x169) 3).2) 8).2) (IntKind.wrap .i64 (((([] : List Str) ++ (([[107], [97], [98], [99, 99]] : List Str).take ((IntKind.wrap .i64 (2 + ((u_pick pC ((u_of pC p_c ([[116], [117]] : List Str)).2) 3).1))).toNat))).length : Int) - 1))).2) 4).1 ∧ (u_pick pC ((u_pick pC ((u_one pC ((u_one pC (x168, x169) 3).2) 8).2) (IntKind.wrap .i64 (((([] : List Str) ++ (([[107], [97], [98], [99, 99]] : List Str).take ((IntKind.wrap .i64 (2 + ((u_pick pC ((u_of pC p_c ([[116], [117]] : List Str)).2) 3).1))).toNat))).length : Int) - 1))).2) 4).1 ≤ 65535 ∧ ((u_pick pC ((u_pick pC ((u_one pC ((u_one pC (x168, x169) 3).2) 8).2) (IntKind.wrap .i64 (((([] : List Str) ++ (([[107], [97], [98], [99, 99]] : List Str).take ((IntKind.wrap .i64 (2 + ((u_pick pC ((u_of pC p_c ([[116], [117]] : List Str)).2) 3).1))).toNat))).length : Int) - 1))).2) 4).1 < 4 ∨ ((4 : Int) ≤ 0 ∧ (u_pick pC ((u_pick pC ((u_one pC ((u_one pC (x168, x169) 3).2) 8).2) (IntKind.wrap .i64 (((([] : List Str) ++ (([[107], [97], [98], [99, 99]] : List Str).take ((IntKind.wrap .i64 (2 + ((u_pick pC ((u_of pC p_c ([[116], [117]] : List Str)).2) 3).1))).toNat))).length : Int) - 1))).2) 4).1 = 0))) ∧ (((u_pick pC ((u_one pC ((u_one pC (x168, x169) 3).2) 8).2) (IntKind.wrap .i64 (((([] : List Str) ++ (([[107], [97], [98], [99, 99]] : List Str).take ((IntKind.wrap .i64 (2 + ((u_pick pC ((u_of pC p_c ([[116], [117]] : List Str)).2) 3).1))).toNat))).length : Int) - 1))).2).1 ≤ ((u_pick pC ((u_pick pC ((u_one pC ((u_one pC (x168, x169) 3).2) 8).2) (IntKind.wrap .i64 (((([] : List Str) ++ (([[107], [97], [98], [99, 99]] : List Str).take ((IntKind.wrap .i64 (2 + ((u_pick pC ((u_of pC p_c ([[116], [117]] : List Str)).2) 3).1))).toNat))).length : Int) - 1))).2) 4).2).1 ∧ ((u_pick pC ((u_pick pC ((u_one pC ((u_one pC (x168, x169) 3).2) 8).2) (IntKind.wrap .i64 (((([] : List Str) ++ (([[107], [97], [98], [99, 99]] : List Str).take ((IntKind.wrap .i64 (2 + ((u_pick pC ((u_of pC p_c ([[116], [117]] : List Str)).2) 3).1))).toNat))).length : Int) - 1))).2) 4).2).1 ≤ ((u_pick pC ((u_one pC ((u_one pC (x168, x169) 3).2) 8).2) (IntKind.wrap .i64 (((([] : List Str) ++ (([[107], [97], [98], [99, 99]] : List Str).take ((IntKind.wrap .i64 (2 + ((u_pick pC ((u_of pC p_c ([[116], [117]] : List Str)).2) 3).1))).toNat))).length : Int) - 1))).2).1 + 2) ∧ Box wq b1 78 [.slice A3 pC.length c3, .int .i64 (((u_pick pC ((u_pick pC ((u_one pC ((u_one pC (x168, x169) 3).2) 8).2) (IntKind.wrap .i64 (((([] : List Str) ++ (([[107], [97], [98], [99, 99]] : List Str).take ((IntKind.wrap .i64 (2 + ((u_pick pC ((u_of pC p_c ([[116], [117]] : List Str)).2) 3).1))).toNat))).length : Int) - 1))).2) 4).2).1), .int .u64 (((u_pick pC ((u_pick pC ((u_one pC ((u_one pC (x168, x169) 3).2) 8).2) (IntKind.wrap .i64 (((([] : List Str) ++ (([[107], [97], [98], [99, 99]] : List Str).take ((IntKind.wrap .i64 (2 + ((u_pick pC ((u_of pC p_c ([[116], [117]] : List Str)).2) 3).1))).toNat))).length : Int) - 1))).2) 4).2).2)], DetG (.agg #[.string (bs ((([[105], [106], [109]] : List Str).getD k102 d_Str))), .int .i64 (IntKind.wrap .i64 (1 + ((u_pick pC ((u_one pC ((u_one pC (x168, x169) 3).2) 8).2) (IntKind.wrap .i64 (((([] : List Str) ++ (([[107], [97], [98], [99, 99]] : List Str).take ((IntKind.wrap .i64 (2 + ((u_pick pC ((u_of pC p_c ([[116], [117]] : List Str)).2) 3).1))).toNat))).length : Int) - 1))).1))), .int .i64 ((u_pick pC ((u_pick pC ((u_one pC ((u_one pC (x168, x169) 3).2) 8).2) (IntKind.wrap .i64 (((([] : List Str) ++ (([[107], [97], [98], [99, 99]] : List Str).take ((IntKind.wrap .i64 (2 + ((u_pick pC ((u_of pC p_c ([[116], [117]] : List Str)).2) 3).1))).toNat))).length : Int) - 1))).2) 4).1)]), fun G v wq => ∃ A276, v = .slice A276 1 1 ∧ OwnL wq (G.fl 13) (G.fh 13) 35 3 (RF e_Idx) A276 1 1 ([(⟨(([[105], [106], [109]] : List Str).getD k102 d_Str), IntKind.wrap .i64 (1 + ((u_pick pC ((u_one pC ((u_one pC (x168, x169) 3).2) 8).2) (IntKind.wrap .i64 (((([] : List Str) ++ (([[107], [97], [98], [99, 99]] : List Str).take ((IntKind.wrap .i64 (2 + ((u_pick pC ((u_of pC p_c ([[116], [117]] : List Str)).2) 3).1))).toNat))).length : Int) - 1))).1)), (u_pick pC ((u_pick pC ((u_one pC ((u_one pC (x168, x169) 3).2) 8).2) (IntKind.wrap .i64 (((([] : List Str) ++ (([[107], [97], [98], [99, 99]] : List Str).take ((IntKind.wrap .i64 (2 + ((u_pick pC ((u_of pC p_c ([[116], [117]] : List Str)).2) 3).1))).toNat))).length : Int) - 1))).2) 4).1⟩ : DIdx)] : List DIdx)]) Tryz.follows rfl rfl rfl rfl rfl rfl (fun _ _ _ _ _ h => (fun h => h.imp (fun h => ⟨Gh.udn h.1, h.2⟩) (fun h => ⟨Gh.udn h.1, h.2⟩)) h) (fun i G w lo hi b K hn hh hp => by exact (hp.elim (fun ⟨e, q1, q2⟩ => by subst e; exact .inl (.inl ⟨Gh.sdn, .inl ⟨q1, q2⟩⟩)) (fun hp => (match hp with | ⟨e, q1, q2⟩ => by subst e; exact .inl (.inr (⟨Gh.sdn, .inl ⟨q1, q2⟩⟩)))))) (vgetG_kept ⟨(KeptG.det _), (KeptG.det _), (KeptG.det _), (KeptG.det _), (KeptG.det _), (KeptG.det _), (KeptG.det _), (KeptG.det _), (by rintro i G v w w' K hn hh hj ⟨hv, h0, h1, h2⟩ e; exact ⟨hv, h0, h1, (by intro hd; exact Box.chg (h2 (Gh.off hd).2) e (fun hp => by exact (hp.elim (fun ⟨e, q1, q2⟩ => by subst e; rw [hj] at hn; cases hn) (fun hp => (match hp with | ⟨e, q1, q2⟩ => by subst e; exact absurd rfl (Gh.off hd).1)))))⟩), (KeptG.det _), (KeptG.det _), (by rintro i G v w w' K hn hh hj ⟨hv, h0, h1, h2⟩ e; exact ⟨hv, h0, h1, (by exact Box.chg h2 e (fun hp => by exact (hp.elim (fun ⟨e, q1, q2⟩ => by subst e; rw [K.cl 11 8 hj rfl] at hn; cases hn) (fun hp => (match hp with | ⟨e, q1, q2⟩ => by subst e; rw [hj] at hn; cases hn)))))⟩), (KeptG.det _), (by rintro i G v w w' K hn hh hj ⟨A276, hv, h0⟩ e; have d13 : G.dn 13 = true := hj; have u13 := Gh.ufl (lo := w.heap.size) (hi := w'.heap.size) d13 hn; have t13 := Gh.ufh (lo := w.heap.size) (hi := w'.heap.size) d13 hn; exact ⟨A276, hv, (by simp only [u13, t13]; exact OwnL.chg gI h0 e (fun b hb hp => by exact (hp.elim (fun ⟨e, q1, q2⟩ => by subst e; rw [K.cl 13 8 hj rfl] at hn; cases hn) (fun hp => (match hp with | ⟨e, q1, q2⟩ => by subst e; rw [K.cl 13 11 hj rfl] at hn; cases hn)))))⟩), trivial⟩) ⟨?_, ?_, ?_, ?_, ?_, ?_, ?_, ?_, ?_, ?_, ?_, ?_, ?_, ?_, trivial⟩ ?_
      ·intro L280 w281 G279 hgk282
       have hE283 : Chg (fun b => InR [(b1, b1 + 1)] b ∨ w245.heap.size ≤ b) w245 w281 := hgk282.st.ex.imp (fun b _ h => h.imp (fun h => h.elim (fun h => h.2) (fun h => h.2)) (fun h => h))
       have hE283z := Chg.size hE283
       exact OpR.op' rfl (Yl.sameG (yl_fieldAddr fd26_2 rfl (hgk282.old 4 _ rfl rfl) kI))
      ·intro L286 w287 G285 hgk288
       have hE289 : Chg (fun b => InR [(b1, b1 + 1)] b ∨ w245.heap.size ≤ b) w245 w287 := hgk288.st.ex.imp (fun b _ h => h.imp (fun h => h.elim (fun h => h.2) (fun h => h.2)) (fun h => h))
       have hE289z := Chg.size hE289
       obtain ⟨_, hx290, rfl⟩ := hgk288.val 0 37 rfl rfl
       exact OpR.op' rfl (Yl.sameG (yl_load1 ty24 rfl hx290 (((Box.chg q266 hE289 (Bx (Box.lt q266))).cell 2).trans rfl) kI))
      ·intro L293 w294 G292 hgk295
       have hE296 : Chg (fun b => InR [(b1, b1 + 1)] b ∨ w245.heap.size ≤ b) w245 w294 := hgk295.st.ex.imp (fun b _ h => h.imp (fun h => h.elim (fun h => h.2) (fun h => h.2)) (fun h => h))
       have hE296z := Chg.size hE296
       exact OpR.op' rfl (Yl.sameG (yM rfl (hgk295.old 6 _ rfl rfl) kI))
      ·intro L299 w300 G298 hgk301
       have hE302 := hgk301.st.ex.ex (fun b h => h.elim (fun h => h.elim (fun h => hgk301.no rfl h) (fun h => hgk301.no rfl h)) (fun h => h))
       have hE302z := Ex.size hE302
       exact OpR.op' rfl (Yl.sameG (yM rfl (hgk301.old 0 _ rfl rfl) kI))
      ·intro L305 w306 G304 hgk307
       have hE308 := hgk307.st.ex.ex (fun b h => h.elim (fun h => h.elim (fun h => hgk307.no rfl h) (fun h => hgk307.no rfl h)) (fun h => h))
       have hE308z := Ex.size hE308
       exact OpR.op' rfl (Yl.sameG (yl_fieldAddr fd26_1 rfl (hgk307.old 4 _ rfl rfl) kI))
      ·intro L311 w312 G310 hgk313
       have hE314 := hgk313.st.ex.ex (fun b h => h.elim (fun h => h.elim (fun h => hgk313.no rfl h) (fun h => hgk313.no rfl h)) (fun h => h))
       have hE314z := Ex.size hE314
       obtain ⟨_, hx315, rfl⟩ := hgk313.val 4 41 rfl rfl
       exact OpR.op' rfl (Yl.sameG (yl_load1 ty23 rfl hx315 (((Box.ex q266 hE314).cell 1).trans rfl) kI))
      ·intro L318 w319 G317 hgk320
       have hE321 := hgk320.st.ex.ex (fun b h => h.elim (fun h => h.elim (fun h => hgk320.no rfl h) (fun h => hgk320.no rfl h)) (fun h => h))
       have hE321z := Ex.size hE321
       obtain ⟨_, hx322, rfl⟩ := hgk320.val 5 42 rfl rfl
       exact OpR.op' rfl (Yl.sameG (yL un23 rfl hx322 kI))
      ·intro L324 w325 G323 hgk326
       have hE327 := hgk326.st.ex.ex (fun b h => h.elim (fun h => h.elim (fun h => hgk326.no rfl h) (fun h => hgk326.no rfl h)) (fun h => h))
       have hE327z := Ex.size hE327
       obtain ⟨_, hx328, rfl⟩ := hgk326.val 6 43 rfl rfl
       exact OpR.op' rfl (Yl.sameG (yl_sub rfl hx328 rfl kI))
      ·intro L330 w331 G329 hgk332
       have hE333 := hgk332.st.ex.ex (fun b h => h.elim (fun h => h.elim (fun h => hgk332.nw h) (fun h => hgk332.no rfl h)) (fun h => h))
       have hE333z := Ex.size hE333
       obtain ⟨_, hx334, rfl⟩ := hgk332.val 3 40 rfl rfl
       obtain ⟨_, hx335, rfl⟩ := hgk332.val 7 44 rfl rfl
       refine OpR.op' rfl (yC en50 rfl (oc hx334 (oc hx335 oz)) (Cal.mono (c_u_pick pC ((u_one pC ((u_one pC (x168, x169) 3).2) 8).2) (IntKind.wrap .i64 (((([] : List Str) ++ (([[107], [97], [98], [99, 99]] : List Str).take ((IntKind.wrap .i64 (2 + ((u_pick pC ((u_of pC p_c ([[116], [117]] : List Str)).2) 3).1))).toNat))).length : Int) - 1)) (Box.ex hB249 hE333) (RdS.ex gU q267 hE333) oM oM o6 oM (by assumption)) ?_))
       rintro v341 w338 ⟨rfl, hp339, hp340, hB343, hE342⟩
       exact ⟨hE342.imp (fun k _ hk => hk.elim (fun hk => (.inl ⟨rfl, hk.1, hk.2⟩)) False.elim), rfl, hp339, hp340, fun _ => hB343⟩
      ·intro L345 w346 G344 hgk347
       have hE348 : Chg (fun b => InR [(b1, b1 + 1)] b ∨ w245.heap.size ≤ b) w245 w346 := hgk347.st.ex.imp (fun b _ h => h.imp (fun h => h.elim (fun h => h.2) (fun h => h.2)) (fun h => h))
       have hE348z := Chg.size hE348
       obtain ⟨_, hx349, rfl, h350, h351, -⟩ := hgk347.val 8 45 rfl rfl
       have hr352 := hgk347.st.rng 8 (hgk347.has 8 rfl)
       exact OpR.op' rfl (Yl.sameG (yl_add rfl rfl hx349 kI))
      ·intro L354 w355 G353 hgk356
       have hE357 : Chg (fun b => InR [(b1, b1 + 1)] b ∨ w245.heap.size ≤ b) w245 w355 := hgk356.st.ex.imp (fun b _ h => h.imp (fun h => h.elim (fun h => h.2) (fun h => hgk356.no rfl h)) (fun h => h))
       have hE357z := Chg.size hE357
       exact OpR.op' rfl (Yl.sameG (yM rfl (hgk356.old 0 _ rfl rfl) kI))
      ·intro L360 w361 G359 hgk362
       have hE363 : Chg (fun b => InR [(b1, b1 + 1)] b ∨ w245.heap.size ≤ b) w245 w361 := hgk362.st.ex.imp (fun b _ h => h.imp (fun h => h.elim (fun h => h.2) (fun h => hgk362.nw h)) (fun h => h))
       have hE363z := Chg.size hE363
       obtain ⟨_, hx364, rfl⟩ := hgk362.val 10 47 rfl rfl
       obtain ⟨_, rfl, h365, h366, h367⟩ := hgk362.fact 8 rfl
       have h367 := h367 hgk362.new
       have hr368 := hgk362.st.rng 8 (hgk362.has 8 rfl)
       refine OpR.op' rfl (yC en50 rfl (oc hx364 (oc rfl oz)) (Cal.mono (c_u_pick pC ((u_pick pC ((u_one pC ((u_one pC (x168, x169) 3).2) 8).2) (IntKind.wrap .i64 (((([] : List Str) ++ (([[107], [97], [98], [99, 99]] : List Str).take ((IntKind.wrap .i64 (2 + ((u_pick pC ((u_of pC p_c ([[116], [117]] : List Str)).2) 3).1))).toNat))).length : Int) - 1))).2) 4 h367 (RdS.chg gU q267 hE363 Bi) oM oM o6 oM (by assumption)) ?_))
       rintro v373 w370 ⟨rfl, hp371, hp372, hB375, hE374⟩
       exact ⟨hE374.imp (fun k _ hk => hk.elim (fun hk => (.inr (⟨rfl, hk.1, hk.2⟩))) False.elim), rfl, hp371, hp372, hB375⟩
      ·intro L377 w378 G376 hgk379
       have hE380 : Chg (fun b => InR [(b1, b1 + 1)] b ∨ w245.heap.size ≤ b) w245 w378 := hgk379.st.ex.imp (fun b _ h => h.imp (fun h => h.elim (fun h => h.2) (fun h => h.2)) (fun h => h))
       have hE380z := Chg.size hE380
       obtain ⟨_, hx381, rfl⟩ := hgk379.val 2 39 rfl rfl
       obtain ⟨_, hx382, rfl⟩ := hgk379.val 9 46 rfl rfl
       obtain ⟨_, hx383, rfl, h384, h385, h386⟩ := hgk379.val 11 48 rfl rfl
       have hr387 := hgk379.st.rng 11 (hgk379.has 11 rfl)
       exact OpR.op' rfl (Yl.sameG (yl_build (cs := [.string (bs ((([[105], [106], [109]] : List Str).getD k102 d_Str))), .int .i64 (IntKind.wrap .i64 (1 + ((u_pick pC ((u_one pC ((u_one pC (x168, x169) 3).2) 8).2) (IntKind.wrap .i64 (((([] : List Str) ++ (([[107], [97], [98], [99, 99]] : List Str).take ((IntKind.wrap .i64 (2 + ((u_pick pC ((u_of pC p_c ([[116], [117]] : List Str)).2) 3).1))).toNat))).length : Int) - 1))).1))), .int .i64 ((u_pick pC ((u_pick pC ((u_one pC ((u_one pC (x168, x169) 3).2) 8).2) (IntKind.wrap .i64 (((([] : List Str) ++ (([[107], [97], [98], [99, 99]] : List Str).take ((IntKind.wrap .i64 (2 + ((u_pick pC ((u_of pC p_c ([[116], [117]] : List Str)).2) 3).1))).toNat))).length : Int) - 1))).2) 4).1)]) rfl (oc hx381 (oc hx382 (oc hx383 oz))) (by kernel_rfl) kI))
      ·intro L389 w390 G388 hgk391
       have hE392 : Chg (fun b => InR [(b1, b1 + 1)] b ∨ w245.heap.size ≤ b) w245 w390 := hgk391.st.ex.imp (fun b _ h => h.imp (fun h => h.elim (fun h => h.2) (fun h => h.2)) (fun h => h))
       have hE392z := Chg.size hE392
       obtain ⟨_, hx393, rfl⟩ := hgk391.val 12 49 rfl rfl
       refine OpR.op' rfl (yl_buildSlice (cs := [.string (bs ((([[105], [106], [109]] : List Str).getD k102 d_Str))), .int .i64 (IntKind.wrap .i64 (1 + ((u_pick pC ((u_one pC ((u_one pC (x168, x169) 3).2) 8).2) (IntKind.wrap .i64 (((([] : List Str) ++ (([[107], [97], [98], [99, 99]] : List Str).take ((IntKind.wrap .i64 (2 + ((u_pick pC ((u_of pC p_c ([[116], [117]] : List Str)).2) 3).1))).toNat))).length : Int) - 1))).1))), .int .i64 ((u_pick pC ((u_pick pC ((u_one pC ((u_one pC (x168, x169) 3).2) 8).2) (IntKind.wrap .i64 (((([] : List Str) ++ (([[107], [97], [98], [99, 99]] : List Str).take ((IntKind.wrap .i64 (2 + ((u_pick pC ((u_of pC p_c ([[116], [117]] : List Str)).2) 3).1))).toNat))).length : Int) - 1))).2) 4).1)]) un24 ty35 (by decide) rfl (oc hx393 oz) (by kernel_rfl) ?_)
       intro b394 w395 hs396 hz397 hB398 hE399
       have hO400 : OwnL w395 b394 (b394 + 1) 35 3 (RF e_Idx) (some ⟨b394, 0, none⟩) 1 1 ([(⟨(([[105], [106], [109]] : List Str).getD k102 d_Str), IntKind.wrap .i64 (1 + ((u_pick pC ((u_one pC ((u_one pC (x168, x169) 3).2) 8).2) (IntKind.wrap .i64 (((([] : List Str) ++ (([[107], [97], [98], [99, 99]] : List Str).take ((IntKind.wrap .i64 (2 + ((u_pick pC ((u_of pC p_c ([[116], [117]] : List Str)).2) 3).1))).toNat))).length : Int) - 1))).1)), (u_pick pC ((u_pick pC ((u_one pC ((u_one pC (x168, x169) 3).2) 8).2) (IntKind.wrap .i64 (((([] : List Str) ++ (([[107], [97], [98], [99, 99]] : List Str).take ((IntKind.wrap .i64 (2 + ((u_pick pC ((u_of pC p_c ([[116], [117]] : List Str)).2) 3).1))).toNat))).length : Int) - 1))).2) 4).1⟩ : DIdx)] : List DIdx) := OwnL.of_box (S := fun _ => False) hB398 (Nat.le_refl _) (Nat.lt_succ_self _) (EncL.cons (c := [.string (bs ((([[105], [106], [109]] : List Str).getD k102 d_Str))), .int .i64 (IntKind.wrap .i64 (1 + ((u_pick pC ((u_one pC ((u_one pC (x168, x169) 3).2) 8).2) (IntKind.wrap .i64 (((([] : List Str) ++ (([[107], [97], [98], [99, 99]] : List Str).take ((IntKind.wrap .i64 (2 + ((u_pick pC ((u_of pC p_c ([[116], [117]] : List Str)).2) 3).1))).toNat))).length : Int) - 1))).1))), .int .i64 ((u_pick pC ((u_pick pC ((u_one pC ((u_one pC (x168, x169) 3).2) 8).2) (IntKind.wrap .i64 (((([] : List Str) ++ (([[107], [97], [98], [99, 99]] : List Str).take ((IntKind.wrap .i64 (2 + ((u_pick pC ((u_of pC p_c ([[116], [117]] : List Str)).2) 3).1))).toNat))).length : Int) - 1))).2) 4).1)]) rfl rfl EncL.nil) (nb rfl) (fun h => h) (fun _ h => False.elim h)
       exact ⟨Chg.of_ex hE399, (some ⟨b394, 0, none⟩), rfl, OwnL.more (lo' := w390.heap.size) (hi' := w395.heap.size) hO400 oM oM⟩
      ·intro G401 L402 w403 hgp404
       have hE405 : Chg (fun b => InR [(b1, b1 + 1)] b ∨ w245.heap.size ≤ b) w245 w403 := hgp404.st.ex.imp (fun b _ h => h.imp (fun h => h.elim (fun h => h.2) (fun h => h.2)) (fun h => h))
       have hE405z := Chg.size hE405
       have hx408 := hgp404.old 4 _ rfl rfl
       obtain ⟨_, hx419, rfl⟩ := hgp404.val 1 38 rfl rfl
       obtain ⟨_, hx420, rfl, h421, h422, -⟩ := hgp404.val 8 45 rfl rfl
       obtain ⟨_, hx423, rfl, h424, h425, h426⟩ := hgp404.val 11 48 rfl rfl
       obtain ⟨_, hx427, A276_428, rfl, h429⟩ := hgp404.val 13 50 rfl rfl
       have hbz430 := Box.lt h426
       have hr431 := hgp404.st.rng 8 (hgp404.has 8 rfl)
       have hr432 := hgp404.st.rng 11 (hgp404.has 11 rfl)
       have hr433 := hgp404.st.rng 13 (hgp404.has 13 rfl)
       have hsp434 := hgp404.st.ord 11 8 (hgp404.has 11 rfl) rfl
       have hsp435 := hgp404.st.ord 13 8 (hgp404.has 13 rfl) rfl
       have hsp436 := hgp404.st.ord 13 11 (hgp404.has 13 rfl) rfl
       have q440 := OwnL.rd gI h429
       obtain ⟨nw441, he442, hs443⟩ := RdS.src q440
       refine sd rfl (yl_appendP (S := fun _ => False) (lo := lo174) (hi := u173) (xs := x170) (ys := ([(⟨(([[105], [106], [109]] : List Str).getD k102 d_Str), IntKind.wrap .i64 (1 + ((u_pick pC ((u_one pC ((u_one pC (x168, x169) 3).2) 8).2) (IntKind.wrap .i64 (((([] : List Str) ++ (([[107], [97], [98], [99, 99]] : List Str).take ((IntKind.wrap .i64 (2 + ((u_pick pC ((u_of pC p_c ([[116], [117]] : List Str)).2) 3).1))).toNat))).length : Int) - 1))).1)), (u_pick pC ((u_pick pC ((u_one pC ((u_one pC (x168, x169) 3).2) 8).2) (IntKind.wrap .i64 (((([] : List Str) ++ (([[107], [97], [98], [99, 99]] : List Str).take ((IntKind.wrap .i64 (2 + ((u_pick pC ((u_of pC p_c ([[116], [117]] : List Str)).2) 3).1))).toNat))).length : Int) - 1))).2) 4).1⟩ : DIdx)] : List DIdx)) un24 ty35 rfl (nb rfl) (fun _ => rfl) rfl hx419 hx427 (OwnL.chg gI (OwnL.chg gI (OwnL.chg gI hf227 hc240 Bk) hc248 Bk) hE405 Bk) he442 hs443 (RdS.len q440) Bl Bl oM oM oM ?_)
       intro A444 c445 w446 row447 lp448 hp449 hO450 hG451 hrg452 hdj453
       have hG451z := hG451.size
       refine sd rfl (yl_fieldAddr fd26_2 rfl hx408 (SeqR.u rfl rfl (yl_store (vs := [.slice A444 ((x170 ++ ([(⟨(([[105], [106], [109]] : List Str).getD k102 d_Str), IntKind.wrap .i64 (1 + ((u_pick pC ((u_one pC ((u_one pC (x168, x169) 3).2) 8).2) (IntKind.wrap .i64 (((([] : List Str) ++ (([[107], [97], [98], [99, 99]] : List Str).take ((IntKind.wrap .i64 (2 + ((u_pick pC ((u_of pC p_c ([[116], [117]] : List Str)).2) 3).1))).toNat))).length : Int) - 1))).1)), (u_pick pC ((u_pick pC ((u_one pC ((u_one pC (x168, x169) 3).2) 8).2) (IntKind.wrap .i64 (((([] : List Str) ++ (([[107], [97], [98], [99, 99]] : List Str).take ((IntKind.wrap .i64 (2 + ((u_pick pC ((u_of pC p_c ([[116], [117]] : List Str)).2) 3).1))).toNat))).length : Int) - 1))).2) 4).1⟩ : DIdx)] : List DIdx)).length) c445]) ty24 rfl rfl rfl rfl rfl rfl (Box.grown (Box.chg q266 hE405 (Bx (Box.lt q266))) hG451 (fun k hk => by have := hrg452 k hk; omega)) (nb rfl) ?_)))
       intro w456 hB457 hO458
       have hB457 : Box w456 b86 26 [.string (bs ((u_of pC p_c ([[116], [117]] : List Str)).1)), .slice A76 ((([] : List Str) ++ (([[107], [97], [98], [99, 99]] : List Str).take ((IntKind.wrap .i64 (2 + ((u_pick pC ((u_of pC p_c ([[116], [117]] : List Str)).2) 3).1))).toNat))).length) c77, .slice A444 ((x170 ++ ([(⟨(([[105], [106], [109]] : List Str).getD k102 d_Str), IntKind.wrap .i64 (1 + ((u_pick pC ((u_one pC ((u_one pC (x168, x169) 3).2) 8).2) (IntKind.wrap .i64 (((([] : List Str) ++ (([[107], [97], [98], [99, 99]] : List Str).take ((IntKind.wrap .i64 (2 + ((u_pick pC ((u_of pC p_c ([[116], [117]] : List Str)).2) 3).1))).toNat))).length : Int) - 1))).1)), (u_pick pC ((u_pick pC ((u_one pC ((u_one pC (x168, x169) 3).2) 8).2) (IntKind.wrap .i64 (((([] : List Str) ++ (([[107], [97], [98], [99, 99]] : List Str).take ((IntKind.wrap .i64 (2 + ((u_pick pC ((u_of pC p_c ([[116], [117]] : List Str)).2) 3).1))).toNat))).length : Int) - 1))).2) 4).1⟩ : DIdx)] : List DIdx)).length) c445] := hB457
       have hO458z := hO458.size
       refine SeqR.done (bn (tn (CW.sub (sC 0 (hgp404.old 0 _ rfl rfl) (sC 2 (hgp404.old 2 _ rfl rfl) (sC 4 hx408 (sC 19 (hgp404.old 19 _ rfl rfl) (sC 20 (hgp404.old 20 _ rfl rfl) (sC 21 (hgp404.old 21 _ rfl rfl) (sC 29 (hgp404.old 29 _ rfl rfl) (sC 30 (hgp404.old 30 _ rfl rfl) (sC 31 (hgp404.old 31 _ rfl rfl) (sC 32 (hgp404.old 32 _ rfl rfl) (sC 33 (hgp404.old 33 _ rfl rfl) (sC 34 (hgp404.old 34 _ rfl rfl) (sC 35 (hgp404.old 35 _ rfl rfl) (Sub.nil _)))))))))))))) (CW.region (sd rfl (yl_inc rfl rfl rfl oM (sM rfl (dn ?_))))))))
       have hB459 : B_u_table_0 pC p_c k102 (x168, x169, x170) = .cont (((u_pick pC ((u_pick pC ((u_one pC ((u_one pC (x168, x169) 3).2) 8).2) (IntKind.wrap .i64 (((([] : List Str) ++ (([[107], [97], [98], [99, 99]] : List Str).take ((IntKind.wrap .i64 (2 + ((u_pick pC ((u_of pC p_c ([[116], [117]] : List Str)).2) 3).1))).toNat))).length : Int) - 1))).2) 4).2).1, ((u_pick pC ((u_pick pC ((u_one pC ((u_one pC (x168, x169) 3).2) 8).2) (IntKind.wrap .i64 (((([] : List Str) ++ (([[107], [97], [98], [99, 99]] : List Str).take ((IntKind.wrap .i64 (2 + ((u_pick pC ((u_of pC p_c ([[116], [117]] : List Str)).2) 3).1))).toNat))).length : Int) - 1))).2) 4).2).2, (x170 ++ ([(⟨(([[105], [106], [109]] : List Str).getD k102 d_Str), IntKind.wrap .i64 (1 + ((u_pick pC ((u_one pC ((u_one pC (x168, x169) 3).2) 8).2) (IntKind.wrap .i64 (((([] : List Str) ++ (([[107], [97], [98], [99, 99]] : List Str).take ((IntKind.wrap .i64 (2 + ((u_pick pC ((u_of pC p_c ([[116], [117]] : List Str)).2) 3).1))).toNat))).length : Int) - 1))).1)), (u_pick pC ((u_pick pC ((u_one pC ((u_one pC (x168, x169) 3).2) 8).2) (IntKind.wrap .i64 (((([] : List Str) ++ (([[107], [97], [98], [99, 99]] : List Str).take ((IntKind.wrap .i64 (2 + ((u_pick pC ((u_of pC p_c ([[116], [117]] : List Str)).2) 3).1))).toNat))).length : Int) - 1))).2) 4).1⟩ : DIdx)] : List DIdx))) := by simp only [B_u_table_0, hb242, hb243, hb250, cL]
       have q465 := Box.chg hf224 hc240 (Bx (Box.lt hf224))
       have q466 := Box.chg q465 hc248 (Bx (Box.lt q465))
       exact ⟨3 - (k102 + 1), oM, k102 + 1, ((u_pick pC ((u_pick pC ((u_one pC ((u_one pC (x168, x169) 3).2) 8).2) (IntKind.wrap .i64 (((([] : List Str) ++ (([[107], [97], [98], [99, 99]] : List Str).take ((IntKind.wrap .i64 (2 + ((u_pick pC ((u_of pC p_c ([[116], [117]] : List Str)).2) 3).1))).toNat))).length : Int) - 1))).2) 4).2).1, ((u_pick pC ((u_pick pC ((u_one pC ((u_one pC (x168, x169) 3).2) 8).2) (IntKind.wrap .i64 (((([] : List Str) ++ (([[107], [97], [98], [99, 99]] : List Str).take ((IntKind.wrap .i64 (2 + ((u_pick pC ((u_of pC p_c ([[116], [117]] : List Str)).2) 3).1))).toNat))).length : Int) - 1))).2) 4).2).2, (x170 ++ ([(⟨(([[105], [106], [109]] : List Str).getD k102 d_Str), IntKind.wrap .i64 (1 + ((u_pick pC ((u_one pC ((u_one pC (x168, x169) 3).2) 8).2) (IntKind.wrap .i64 (((([] : List Str) ++ (([[107], [97], [98], [99, 99]] : List Str).take ((IntKind.wrap .i64 (2 + ((u_pick pC ((u_of pC p_c ([[116], [117]] : List Str)).2) 3).1))).toNat))).length : Int) - 1))).1)), (u_pick pC ((u_pick pC ((u_one pC ((u_one pC (x168, x169) 3).2) 8).2) (IntKind.wrap .i64 (((([] : List Str) ++ (([[107], [97], [98], [99, 99]] : List Str).take ((IntKind.wrap .i64 (2 + ((u_pick pC ((u_of pC p_c ([[116], [117]] : List Str)).2) 3).1))).toNat))).length : Int) - 1))).2) 4).1⟩ : DIdx)] : List DIdx)), A444, c445, hp449, lp448, rfl, hlt234, oM, rfl, rfl, rfl, rfl, rfl, rfl, (Box.only (Box.grown h426 hG451 (fun k hk => by have := hrg452 k hk; omega)) hO458 oM), (RdS.only gU (RdS.grown gU (RdS.chg gU q267 hE405 Bi) hG451 (fun k hk => by have := hrg452 k hk; simp only [Iv]; omega)) hO458 (by simp only [Iv]; omega)), (Box.only (Box.grown (Box.chg q466 hE405 (Bx (Box.lt q466))) hG451 (fun k hk => by have := hrg452 k hk; omega)) hO458 oM), hB457, (OwnL.only gS (OwnL.grown gS (OwnL.chg gS (OwnL.chg gS (OwnL.chg gS hf226 hc240 Bk) hc248 Bk) hE405 Bk) hG451 (fun k hk => by have := hrg452 k hk; omega)) hO458 oM), (OwnL.only gI hO450 hO458 oM), (OwnL.only gS (OwnL.grown gS (OwnL.chg gS (OwnL.chg gS (OwnL.chg gS hf228 hc240 Bk) hc248 Bk) hE405 Bk) hG451 (fun k hk => by have := hrg452 k hk; omega)) hO458 oM), (Chg.tonly (Chg.tgrown (Chg.tchg (Chg.tchg (Chg.tchg hf229 hc240 (fun k hk => by simp only [InR, or_false] at hk ⊢; omega)) hc248 (fun k hk => by simp only [InR, or_false] at hk ⊢; omega)) hE405 (fun k hk => by simp only [InR, or_false] at hk ⊢; omega)) hG451 (fun k hk => by have := hrg452 k hk; simp only [InR, or_false]; omega)) hO458 (by simp only [InR, or_false]; omega)), oM, Bl, (okE.append hok232 ((okL.mk (nb rfl) (okE.cons (show ok_Idx (⟨(([[105], [106], [109]] : List Str).getD k102 d_Str), IntKind.wrap .i64 (1 + ((u_pick pC ((u_one pC ((u_one pC (x168, x169) 3).2) 8).2) (IntKind.wrap .i64 (((([] : List Str) ++ (([[107], [97], [98], [99, 99]] : List Str).take ((IntKind.wrap .i64 (2 + ((u_pick pC ((u_of pC p_c ([[116], [117]] : List Str)).2) 3).1))).toNat))).length : Int) - 1))).1)), (u_pick pC ((u_pick pC ((u_one pC ((u_one pC (x168, x169) 3).2) 8).2) (IntKind.wrap .i64 (((([] : List Str) ++ (([[107], [97], [98], [99, 99]] : List Str).take ((IntKind.wrap .i64 (2 + ((u_pick pC ((u_of pC p_c ([[116], [117]] : List Str)).2) 3).1))).toNat))).length : Int) - 1))).2) 4).1⟩ : DIdx) from (okL.getD (okL.mk (nb rfl) (okE.cons (okS.lit rfl) (okE.cons (okS.lit rfl) (okE.cons (okS.lit rfl) okE.nil)))) ok_d_Str _)) okE.nil))).2), Bo, (loopM.cont hlt234 hB459).symm.trans hI214⟩
    ·refine sz rfl rfl hb243 (sz rfl rfl hb243 (sz rfl rfl hb243 (sy rfl rfl (not_t hb242) (yl_pick_f rfl rfl hb243 rfl (sd rfl (yl_pick_f rfl rfl (not_t hb242) rfl (dn (CW.cond_f rfl rfl (CW.skip ?_)))))))))
     refine bn (tn (CW.region (sd rfl (yl_inc rfl rfl rfl oM (sM rfl (dn ?_))))))
     have hB486 : B_u_table_0 pC p_c k102 (x168, x169, x170) = .cont (((u_one pC (x168, x169) 3).2).1, ((u_one pC (x168, x169) 3).2).2, x170) := by simp only [B_u_table_0, hb242, hb243, cL]
     exact ⟨3 - (k102 + 1), oM, k102 + 1, ((u_one pC (x168, x169) 3).2).1, ((u_one pC (x168, x169) 3).2).2, x170, A171, c172, u173, lo174, rfl, hlt234, oM, rfl, rfl, rfl, rfl, rfl, rfl, hB241, (RdS.chg gU hf223 hc240 Bi), (Box.chg hf224 hc240 (Bx (Box.lt hf224))), (Box.chg hf225 hc240 (Bx (Box.lt hf225))), (OwnL.chg gS hf226 hc240 Bk), (OwnL.chg gI hf227 hc240 Bk), (OwnL.chg gS hf228 hc240 Bk), (Chg.tchg hf229 hc240 (fun k hk => by simp only [InR, or_false] at hk ⊢; omega)), oM, Bl, hok232, Bo, (loopM.cont hlt234 hB486).symm.trans hI214⟩
   ·refine sz rfl rfl (not_f hb242) (sz rfl rfl (not_f hb242) (sz rfl rfl (not_f hb242) (sq rfl rfl (sq rfl rfl (sq rfl rfl (sz rfl rfl (not_f hb242) (sd rfl (yl_pick_t rfl rfl (not_f hb242) rfl (SeqR.done ?_)))))))))
    refine tn (CW.cond_t rfl rfl ?_)
    have q494 := Box.chg hf225 hc240 (Bx (Box.lt hf225))
    have q495 := RdS.chg gU hf223 hc240 Bi
    refine CW.drawsG 14 (fun G b => (G.dn 8 = true ∧ InR [(b1, b1 + 1)] b) ∨ (G.dn 11 = true ∧ InR [(b1, b1 + 1)] b)) (fun i G b => (i = 8 ∧ b1 ≤ b ∧ b < b1 + 1) ∨ (i = 11 ∧ b1 ≤ b ∧ b < b1 + 1)) (vgetG [DetG (.pointer (some ⟨b86, 0 + 2, none⟩)), DetG (.slice A171 x170.length c172), DetG (.string (bs ((([[105], [106], [109]] : List Str).getD k102 d_Str)))), DetG (.pointer (some ⟨b1, 0, none⟩)), DetG (.pointer (some ⟨b86, 0 + 1, none⟩)), DetG (.slice A76 ((([] : List Str) ++ (([[107], [97], [98], [99, 99]] : List Str).take ((IntKind.wrap .i64 (2 + ((u_pick pC ((u_of pC p_c ([[116], [117]] : List Str)).2) 3).1))).toNat))).length) c77), DetG (.int .i64 (((([] : List Str) ++ (([[107], [97], [98], [99, 99]] : List Str).take ((IntKind.wrap .i64 (2 + ((u_pick pC ((u_of pC p_c ([[116], [117]] : List Str)).2) 3).1))).toNat))).length : Int))), DetG (.int .i64 (IntKind.wrap .i64 (((([] : List Str) ++ (([[107], [97], [98], [99, 99]] : List Str).take ((IntKind.wrap .i64 (2 + ((u_pick pC ((u_of pC p_c ([[116], [117]] : List Str)).2) 3).1))).toNat))).length : Int) - 1))), fun G v wq => v = .int .i64 ((u_pick pC ((u_one pC (x168, x169) 3).2) (IntKind.wrap .i64 (((([] : List Str) ++ (([[107], [97], [98], [99, 99]] : List Str).take ((IntKind.wrap .i64 (2 + ((u_pick pC ((u_of pC p_c ([[116], [117]] : List Str)).2) 3).1))).toNat))).length : Int) - 1))).1) ∧ (0 ≤ (u_pick pC ((u_one pC (x168, x169) 3).2) (IntKind.wrap .i64 (((([] : List Str) ++ (([[107], [97], [98], [99, 99]] : List Str).take ((IntKind.wrap .i64 (2 + ((u_pick pC ((u_of pC p_c ([[116], [117]] : List Str)).2) 3).1))).toNat))).length : Int) - 1))).1 ∧ (u_pick pC ((u_one pC (x168, x169) 3).2) (IntKind.wrap .i64 (((([] : List Str) ++ (([[107], [97], [98], [99, 99]] : List Str).take ((IntKind.wrap .i64 (2 + ((u_pick pC ((u_of pC p_c ([[116], [117]] : List Str)).2) 3).1))).toNat))).length : Int) - 1))).1 ≤ 65535 ∧ ((u_pick pC ((u_one pC (x168, x169) 3).2) (IntKind.wrap .i64 (((([] : List Str) ++ (([[107], [97], [98], [99, 99]] : List Str).take ((IntKind.wrap .i64 (2 + ((u_pick pC ((u_of pC p_c ([[116], [117]] : List Str)).2) 3).1))).toNat))).length : Int) - 1))).1 < IntKind.wrap .i64 (((([] : List Str) ++ (([[107], [97], [98], [99, 99]] : List Str).take ((IntKind.wrap .i64 (2 + ((u_pick pC ((u_of pC p_c ([[116], [117]] : List Str)).2) 3).1))).toNat))).length : Int) - 1) ∨ ((IntKind.wrap .i64 (((([] : List Str) ++ (([[107], [97], [98], [99, 99]] : List Str).take ((IntKind.wrap .i64 (2 + ((u_pick pC ((u_of pC p_c ([[116], [117]] : List Str)).2) 3).1))).toNat))).length : Int) - 1) : Int) ≤ 0 ∧ (u_pick pC ((u_one pC (x168, x169) 3).2) (IntKind.wrap .i64 (((([] : List Str) ++ (([[107], [97], [98], [99, 99]] : List Str).take ((IntKind.wrap .i64 (2 + ((u_pick pC ((u_of pC p_c ([[116], [117]] : List Str)).2) 3).1))).toNat))).length : Int) - 1))).1 = 0))) ∧ (((u_one pC (x168, x169) 3).2).1 ≤ ((u_pick pC ((u_one pC (x168, x169) 3).2) (IntKind.wrap .i64 (((([] : List Str) ++ (([[107], [97], [98], [99, 99]] : List Str).take ((IntKind.wrap .i64 (2 + ((u_pick pC ((u_of pC p_c ([[116], [117]] : List Str)).2) 3).1))).toNat))).length : Int) - 1))).2).1 ∧ ((u_pick pC ((u_one pC (x168, x169) 3).2) (IntKind.wrap .i64 (((([] : List Str) ++ (([[107], [97], [98], [99, 99]] : List Str).take ((IntKind.wrap .i64 (2 + ((u_pick pC ((u_of pC p_c ([[116], [117]] : List Str)).2) 3).1))).toNat))).length : Int) - 1))).2).1 ≤ ((u_one pC (x168, x169) 3).2).1 + 2) ∧ (G.dn 11 = false → Box wq b1 78 [.slice A3 pC.length c3, .int .i64 (((u_pick pC ((u_one pC (x168, x169) 3).2) (IntKind.wrap .i64 (((([] : List Str) ++ (([[107], [97], [98], [99, 99]] : List Str).take ((IntKind.wrap .i64 (2 + ((u_pick pC ((u_of pC p_c ([[116], [117]] : List Str)).2) 3).1))).toNat))).length : Int) - 1))).2).1), .int .u64 (((u_pick pC ((u_one pC (x168, x169) 3).2) (IntKind.wrap .i64 (((([] : List Str) ++ (([[107], [97], [98], [99, 99]] : List Str).take ((IntKind.wrap .i64 (2 + ((u_pick pC ((u_of pC p_c ([[116], [117]] : List Str)).2) 3).1))).toNat))).length : Int) - 1))).2).2)]), DetG (.int .i64 (IntKind.wrap .i64 (1 + ((u_pick pC ((u_one pC (x168, x169) 3).2) (IntKind.wrap .i64 (((([] : List Str) ++ (([[107], [97], [98], [99, 99]] : List Str).take ((IntKind.wrap .i64 (2 + ((u_pick pC ((u_of pC p_c ([[116], [117]] : List Str)).2) 3).1))).toNat))).length : Int) - 1))).1)))), DetG (.pointer (some ⟨b1, 0, none⟩)), fun G v wq => v = .int .i64 ((u_pick pC ((u_pick pC ((u_one pC (x168, x169) 3).2) (IntKind.wrap .i64 (((([] : List Str) ++ (([[107], [97], [98], [99, 99]] : List Str).take ((IntKind.wrap .i64 (2 + ((u_pick pC ((u_of pC p_c ([[116], [117]] : List Str)).2) 3).1))).toNat))).length : Int) - 1))).2) 4).1) ∧ (0 ≤ (u_pick pC ((u_pick pC ((u_one pC (x168, x169) 3).2) (IntKind.wrap .i64 (((([] : List Str) ++ (([[107], [97], [98], [99, 99]] : List Str).take ((IntKind.wrap .i64 (2 + ((u_pick pC ((u_of pC p_c ([[116], [117]] : List Str)).2) 3).1))).toNat))).length : Int) - 1))).2) 4).1 ∧ (u_pick pC ((u_pick pC ((u_one pC (x168, x169) 3).2) (IntKind.wrap .i64 (((([] : List Str) ++ (([[107], [97], [98], [99, 99]] : List Str).take ((IntKind.wrap .i64 (2 + ((u_pick pC ((u_of pC p_c ([[116], [117]] : List Str)).2) 3).1))).toNat))).length : Int) - 1))).2) 4).1 ≤ 65535 ∧ ((u_pick pC ((u_pick pC ((u_one pC (x168, x169) 3).2) (IntKind.wrap .i64 (((([] : List Str) ++ (([[107], [97], [98], [99, 99]] : List Str).take ((IntKind.wrap .i64 (2 + ((u_pick pC ((u_of pC p_c ([[116], [117]] : List Str)).2) 3).1))).toNat))).length : Int) - 1))).2) 4).1 < 4 ∨ ((4 : Int) ≤ 0 ∧ (u_pick pC ((u_pick pC ((u_one pC (x168, x169) 3).2) (IntKind.wrap .i64 (((([] : List Str) ++ (([[107], [97], [98], [99, 99]] : List Str).take ((IntKind.wrap .i64 (2 + ((u_pick pC ((u_of pC p_c ([[116], [117]] : List Str)).2) 3).1))).toNat))).length : Int) - 1))).2) 4).1 = 0))) ∧ (((u_pick pC ((u_one pC (x168, x169) 3).2) (IntKind.wrap .i64 (((([] : List Str) ++ (([[107], [97], [98], [99, 99]] : List Str).take ((IntKind.wrap .i64 (2 + ((u_pick pC ((u_of pC p_c ([[116], [117]] : List Str)).2) 3).1))).toNat))).length : Int) - 1))).2).1 ≤ ((u_pick pC ((u_pick pC ((u_one pC (x168, x169) 3).2) (IntKind.wrap .i64 (((([] : List Str) ++ (([[107], [97], [98], [99, 99]] : List Str).take ((IntKind.wrap .i64 (2 + ((u_pick pC ((u_of pC p_c ([[116], [117]] : List Str)).2) 3).1))).toNat))).length : Int) - 1))).2) 4).2).1 ∧ ((u_pick pC ((u_pick pC ((u_one pC (x168, x169) 3).2) (IntKind.wrap .i64 (((([] : List Str) ++ (([[107], [97], [98], [99, 99]] : List Str).take ((IntKind.wrap .i64 (2 + ((u_pick pC ((u_of pC p_c ([[116], [117]] : List Str)).2) 3).1))).toNat))).length : Int) - 1))).2) 4).2).1 ≤ ((u_pick pC ((u_one pC (x168, x169) 3).2) (IntKind.wrap .i64 (((([] : List Str) ++ (([[107], [97], [98], [99, 99]] : List Str).take ((IntKind.wrap .i64 (2 + ((u_pick pC ((u_of pC p_c ([[116], [117]] : List Str)).2) 3).1))).toNat))).length : Int) - 1))).2).1 + 2) ∧ Box wq b1 78 [.slice A3 pC.length c3, .int .i64 (((u_pick pC ((u_pick pC ((u_one pC (x168, x169) 3).2) (IntKind.wrap .i64 (((([] : List Str) ++ (([[107], [97], [98], [99, 99]] : List Str).take ((IntKind.wrap .i64 (2 + ((u_pick pC ((u_of pC p_c ([[116], [117]] : List Str)).2) 3).1))).toNat))).length : Int) - 1))).2) 4).2).1), .int .u64 (((u_pick pC ((u_pick pC ((u_one pC (x168, x169) 3).2) (IntKind.wrap .i64 (((([] : List Str) ++ (([[107], [97], [98], [99, 99]] : List Str).take ((IntKind.wrap .i64 (2 + ((u_pick pC ((u_of pC p_c ([[116], [117]] : List Str)).2) 3).1))).toNat))).length : Int) - 1))).2) 4).2).2)], DetG (.agg #[.string (bs ((([[105], [106], [109]] : List Str).getD k102 d_Str))), .int .i64 (IntKind.wrap .i64 (1 + ((u_pick pC ((u_one pC (x168, x169) 3).2) (IntKind.wrap .i64 (((([] : List Str) ++ (([[107], [97], [98], [99, 99]] : List Str).take ((IntKind.wrap .i64 (2 + ((u_pick pC ((u_of pC p_c ([[116], [117]] : List Str)).2) 3).1))).toNat))).length : Int) - 1))).1))), .int .i64 ((u_pick pC ((u_pick pC ((u_one pC (x168, x169) 3).2) (IntKind.wrap .i64 (((([] : List Str) ++ (([[107], [97], [98], [99, 99]] : List Str).take ((IntKind.wrap .i64 (2 + ((u_pick pC ((u_of pC p_c ([[116], [117]] : List Str)).2) 3).1))).toNat))).length : Int) - 1))).2) 4).1)]), fun G v wq => ∃ A504, v = .slice A504 1 1 ∧ OwnL wq (G.fl 13) (G.fh 13) 35 3 (RF e_Idx) A504 1 1 ([(⟨(([[105], [106], [109]] : List Str).getD k102 d_Str), IntKind.wrap .i64 (1 + ((u_pick pC ((u_one pC (x168, x169) 3).2) (IntKind.wrap .i64 (((([] : List Str) ++ (([[107], [97], [98], [99, 99]] : List Str).take ((IntKind.wrap .i64 (2 + ((u_pick pC ((u_of pC p_c ([[116], [117]] : List Str)).2) 3).1))).toNat))).length : Int) - 1))).1)), (u_pick pC ((u_pick pC ((u_one pC (x168, x169) 3).2) (IntKind.wrap .i64 (((([] : List Str) ++ (([[107], [97], [98], [99, 99]] : List Str).take ((IntKind.wrap .i64 (2 + ((u_pick pC ((u_of pC p_c ([[116], [117]] : List Str)).2) 3).1))).toNat))).length : Int) - 1))).2) 4).1⟩ : DIdx)] : List DIdx)]) Tryz.follows rfl rfl rfl rfl rfl rfl (fun _ _ _ _ _ h => (fun h => h.imp (fun h => ⟨Gh.udn h.1, h.2⟩) (fun h => ⟨Gh.udn h.1, h.2⟩)) h) (fun i G w lo hi b K hn hh hp => by exact (hp.elim (fun ⟨e, q1, q2⟩ => by subst e; exact .inl (.inl ⟨Gh.sdn, .inl ⟨q1, q2⟩⟩)) (fun hp => (match hp with | ⟨e, q1, q2⟩ => by subst e; exact .inl (.inr (⟨Gh.sdn, .inl ⟨q1, q2⟩⟩)))))) (vgetG_kept ⟨(KeptG.det _), (KeptG.det _), (KeptG.det _), (KeptG.det _), (KeptG.det _), (KeptG.det _), (KeptG.det _), (KeptG.det _), (by rintro i G v w w' K hn hh hj ⟨hv, h0, h1, h2⟩ e; exact ⟨hv, h0, h1, (by intro hd; exact Box.chg (h2 (Gh.off hd).2) e (fun hp => by exact (hp.elim (fun ⟨e, q1, q2⟩ => by subst e; rw [hj] at hn; cases hn) (fun hp => (match hp with | ⟨e, q1, q2⟩ => by subst e; exact absurd rfl (Gh.off hd).1)))))⟩), (KeptG.det _), (KeptG.det _), (by rintro i G v w w' K hn hh hj ⟨hv, h0, h1, h2⟩ e; exact ⟨hv, h0, h1, (by exact Box.chg h2 e (fun hp => by exact (hp.elim (fun ⟨e, q1, q2⟩ => by subst e; rw [K.cl 11 8 hj rfl] at hn; cases hn) (fun hp => (match hp with | ⟨e, q1, q2⟩ => by subst e; rw [hj] at hn; cases hn)))))⟩), (KeptG.det _), (by rintro i G v w w' K hn hh hj ⟨A504, hv, h0⟩ e; have d13 : G.dn 13 = true := hj; have u13 := Gh.ufl (lo := w.heap.size) (hi := w'.heap.size) d13 hn; have t13 := Gh.ufh (lo := w.heap.size) (hi := w'.heap.size) d13 hn; exact ⟨A504, hv, (by simp only [u13, t13]; exact OwnL.chg gI h0 e (fun b hb hp => by exact (hp.elim (fun ⟨e, q1, q2⟩ => by subst e; rw [K.cl 13 8 hj rfl] at hn; cases hn) (fun hp => (match hp with | ⟨e, q1, q2⟩ => by subst e; rw [K.cl 13 11 hj rfl] at hn; cases hn)))))⟩), trivial⟩) ⟨?_, ?_, ?_, ?_, ?_, ?_, ?_, ?_, ?_, ?_, ?_, ?_, ?_, ?_, trivial⟩ ?_
    ·intro L508 w509 G507 hgk510
     have hE511 : Chg (fun b => InR [(b1, b1 + 1)] b ∨ w237.heap.size ≤ b) w237 w509 := hgk510.st.ex.imp (fun b _ h => h.imp (fun h => h.elim (fun h => h.2) (fun h => h.2)) (fun h => h))
     have hE511z := Chg.size hE511
     exact OpR.op' rfl (Yl.sameG (yl_fieldAddr fd26_2 rfl (hgk510.old 4 _ rfl rfl) kI))
    ·intro L514 w515 G513 hgk516
     have hE517 : Chg (fun b => InR [(b1, b1 + 1)] b ∨ w237.heap.size ≤ b) w237 w515 := hgk516.st.ex.imp (fun b _ h => h.imp (fun h => h.elim (fun h => h.2) (fun h => h.2)) (fun h => h))
     have hE517z := Chg.size hE517
     obtain ⟨_, hx518, rfl⟩ := hgk516.val 0 37 rfl rfl
     exact OpR.op' rfl (Yl.sameG (yl_load1 ty24 rfl hx518 (((Box.chg q494 hE517 (Bx (Box.lt q494))).cell 2).trans rfl) kI))
    ·intro L521 w522 G520 hgk523
     have hE524 : Chg (fun b => InR [(b1, b1 + 1)] b ∨ w237.heap.size ≤ b) w237 w522 := hgk523.st.ex.imp (fun b _ h => h.imp (fun h => h.elim (fun h => h.2) (fun h => h.2)) (fun h => h))
     have hE524z := Chg.size hE524
     exact OpR.op' rfl (Yl.sameG (yM rfl (hgk523.old 6 _ rfl rfl) kI))
    ·intro L527 w528 G526 hgk529
     have hE530 := hgk529.st.ex.ex (fun b h => h.elim (fun h => h.elim (fun h => hgk529.no rfl h) (fun h => hgk529.no rfl h)) (fun h => h))
     have hE530z := Ex.size hE530
     exact OpR.op' rfl (Yl.sameG (yM rfl (hgk529.old 0 _ rfl rfl) kI))
    ·intro L533 w534 G532 hgk535
     have hE536 := hgk535.st.ex.ex (fun b h => h.elim (fun h => h.elim (fun h => hgk535.no rfl h) (fun h => hgk535.no rfl h)) (fun h => h))
     have hE536z := Ex.size hE536
     exact OpR.op' rfl (Yl.sameG (yl_fieldAddr fd26_1 rfl (hgk535.old 4 _ rfl rfl) kI))
    ·intro L539 w540 G538 hgk541
     have hE542 := hgk541.st.ex.ex (fun b h => h.elim (fun h => h.elim (fun h => hgk541.no rfl h) (fun h => hgk541.no rfl h)) (fun h => h))
     have hE542z := Ex.size hE542
     obtain ⟨_, hx543, rfl⟩ := hgk541.val 4 41 rfl rfl
     exact OpR.op' rfl (Yl.sameG (yl_load1 ty23 rfl hx543 (((Box.ex q494 hE542).cell 1).trans rfl) kI))
    ·intro L546 w547 G545 hgk548
     have hE549 := hgk548.st.ex.ex (fun b h => h.elim (fun h => h.elim (fun h => hgk548.no rfl h) (fun h => hgk548.no rfl h)) (fun h => h))
     have hE549z := Ex.size hE549
     obtain ⟨_, hx550, rfl⟩ := hgk548.val 5 42 rfl rfl
     exact OpR.op' rfl (Yl.sameG (yL un23 rfl hx550 kI))
    ·intro L552 w553 G551 hgk554
     have hE555 := hgk554.st.ex.ex (fun b h => h.elim (fun h => h.elim (fun h => hgk554.no rfl h) (fun h => hgk554.no rfl h)) (fun h => h))
     have hE555z := Ex.size hE555
     obtain ⟨_, hx556, rfl⟩ := hgk554.val 6 43 rfl rfl
     exact OpR.op' rfl (Yl.sameG (yl_sub rfl hx556 rfl kI))
    ·intro L558 w559 G557 hgk560
     have hE561 := hgk560.st.ex.ex (fun b h => h.elim (fun h => h.elim (fun h => hgk560.nw h) (fun h => hgk560.no rfl h)) (fun h => h))
     have hE561z := Ex.size hE561
     obtain ⟨_, hx562, rfl⟩ := hgk560.val 3 40 rfl rfl
     obtain ⟨_, hx563, rfl⟩ := hgk560.val 7 44 rfl rfl
     refine OpR.op' rfl (yC en50 rfl (oc hx562 (oc hx563 oz)) (Cal.mono (c_u_pick pC ((u_one pC (x168, x169) 3).2) (IntKind.wrap .i64 (((([] : List Str) ++ (([[107], [97], [98], [99, 99]] : List Str).take ((IntKind.wrap .i64 (2 + ((u_pick pC ((u_of pC p_c ([[116], [117]] : List Str)).2) 3).1))).toNat))).length : Int) - 1)) (Box.ex hB241 hE561) (RdS.ex gU q495 hE561) oM oM o6 oM (by assumption)) ?_))
     rintro v569 w566 ⟨rfl, hp567, hp568, hB571, hE570⟩
     exact ⟨hE570.imp (fun k _ hk => hk.elim (fun hk => (.inl ⟨rfl, hk.1, hk.2⟩)) False.elim), rfl, hp567, hp568, fun _ => hB571⟩
    ·intro L573 w574 G572 hgk575
     have hE576 : Chg (fun b => InR [(b1, b1 + 1)] b ∨ w237.heap.size ≤ b) w237 w574 := hgk575.st.ex.imp (fun b _ h => h.imp (fun h => h.elim (fun h => h.2) (fun h => h.2)) (fun h => h))
     have hE576z := Chg.size hE576
     obtain ⟨_, hx577, rfl, h578, h579, -⟩ := hgk575.val 8 45 rfl rfl
     have hr580 := hgk575.st.rng 8 (hgk575.has 8 rfl)
     exact OpR.op' rfl (Yl.sameG (yl_add rfl rfl hx577 kI))
    ·intro L582 w583 G581 hgk584
     have hE585 : Chg (fun b => InR [(b1, b1 + 1)] b ∨ w237.heap.size ≤ b) w237 w583 := hgk584.st.ex.imp (fun b _ h => h.imp (fun h => h.elim (fun h => h.2) (fun h => hgk584.no rfl h)) (fun h => h))
     have hE585z := Chg.size hE585
     exact OpR.op' rfl (Yl.sameG (yM rfl (hgk584.old 0 _ rfl rfl) kI))
    ·intro L588 w589 G587 hgk590
     have hE591 : Chg (fun b => InR [(b1, b1 + 1)] b ∨ w237.heap.size ≤ b) w237 w589 := hgk590.st.ex.imp (fun b _ h => h.imp (fun h => h.elim (fun h => h.2) (fun h => hgk590.nw h)) (fun h => h))
     have hE591z := Chg.size hE591
     obtain ⟨_, hx592, rfl⟩ := hgk590.val 10 47 rfl rfl
     obtain ⟨_, rfl, h593, h594, h595⟩ := hgk590.fact 8 rfl
     have h595 := h595 hgk590.new
     have hr596 := hgk590.st.rng 8 (hgk590.has 8 rfl)
     refine OpR.op' rfl (yC en50 rfl (oc hx592 (oc rfl oz)) (Cal.mono (c_u_pick pC ((u_pick pC ((u_one pC (x168, x169) 3).2) (IntKind.wrap .i64 (((([] : List Str) ++ (([[107], [97], [98], [99, 99]] : List Str).take ((IntKind.wrap .i64 (2 + ((u_pick pC ((u_of pC p_c ([[116], [117]] : List Str)).2) 3).1))).toNat))).length : Int) - 1))).2) 4 h595 (RdS.chg gU q495 hE591 Bi) oM oM o6 oM (by assumption)) ?_))
     rintro v601 w598 ⟨rfl, hp599, hp600, hB603, hE602⟩
     exact ⟨hE602.imp (fun k _ hk => hk.elim (fun hk => (.inr (⟨rfl, hk.1, hk.2⟩))) False.elim), rfl, hp599, hp600, hB603⟩
    ·intro L605 w606 G604 hgk607
     have hE608 : Chg (fun b => InR [(b1, b1 + 1)] b ∨ w237.heap.size ≤ b) w237 w606 := hgk607.st.ex.imp (fun b _ h => h.imp (fun h => h.elim (fun h => h.2) (fun h => h.2)) (fun h => h))
     have hE608z := Chg.size hE608
     obtain ⟨_, hx609, rfl⟩ := hgk607.val 2 39 rfl rfl
     obtain ⟨_, hx610, rfl⟩ := hgk607.val 9 46 rfl rfl
     obtain ⟨_, hx611, rfl, h612, h613, h614⟩ := hgk607.val 11 48 rfl rfl
     have hr615 := hgk607.st.rng 11 (hgk607.has 11 rfl)
     exact OpR.op' rfl (Yl.sameG (yl_build (cs := [.string (bs ((([[105], [106], [109]] : List Str).getD k102 d_Str))), .int .i64 (IntKind.wrap .i64 (1 + ((u_pick pC ((u_one pC (x168, x169) 3).2) (IntKind.wrap .i64 (((([] : List Str) ++ (([[107], [97], [98], [99, 99]] : List Str).take ((IntKind.wrap .i64 (2 + ((u_pick pC ((u_of pC p_c ([[116], [117]] : List Str)).2) 3).1))).toNat))).length : Int) - 1))).1))), .int .i64 ((u_pick pC ((u_pick pC ((u_one pC (x168, x169) 3).2) (IntKind.wrap .i64 (((([] : List Str) ++ (([[107], [97], [98], [99, 99]] : List Str).take ((IntKind.wrap .i64 (2 + ((u_pick pC ((u_of pC p_c ([[116], [117]] : List Str)).2) 3).1))).toNat))).length : Int) - 1))).2) 4).1)]) rfl (oc hx609 (oc hx610 (oc hx611 oz))) (by kernel_rfl) kI))
    ·intro L617 w618 G616 hgk619
     have hE620 : Chg (fun b => InR [(b1, b1 + 1)] b ∨ w237.heap.size ≤ b) w237 w618 := hgk619.st.ex.imp (fun b _ h => h.imp (fun h => h.elim (fun h => h.2) (fun h => h.2)) (fun h => h))
     have hE620z := Chg.size hE620
     obtain ⟨_, hx621, rfl⟩ := hgk619.val 12 49 rfl rfl
     refine OpR.op' rfl (yl_buildSlice (cs := [.string (bs ((([[105], [106], [109]] : List Str).getD k102 d_Str))), .int .i64 (IntKind.wrap .i64 (1 + ((u_pick pC ((u_one pC (x168, x169) 3).2) (IntKind.wrap .i64 (((([] : List Str) ++ (([[107], [97], [98], [99, 99]] : List Str).take ((IntKind.wrap .i64 (2 + ((u_pick pC ((u_of pC p_c ([[116], [117]] : List Str)).2) 3).1))).toNat))).length : Int) - 1))).1))), .int .i64 ((u_pick pC ((u_pick pC ((u_one pC (x168, x169) 3).2) (IntKind.wrap .i64 (((([] : List Str) ++ (([[107], [97], [98], [99, 99]] : List Str).take ((IntKind.wrap .i64 (2 + ((u_pick pC ((u_of pC p_c ([[116], [117]] : List Str)).2) 3).1))).toNat))).length : Int) - 1))).2) 4).1)]) un24 ty35 (by decide) rfl (oc hx621 oz) (by kernel_rfl) ?_)
     intro b622 w623 hs624 hz625 hB626 hE627
     have hO628 : OwnL w623 b622 (b622 + 1) 35 3 (RF e_Idx) (some ⟨b622, 0, none⟩) 1 1 ([(⟨(([[105], [106], [109]] : List Str).getD k102 d_Str), IntKind.wrap .i64 (1 + ((u_pick pC ((u_one pC (x168, x169) 3).2) (IntKind.wrap .i64 (((([] : List Str) ++ (([[107], [97], [98], [99, 99]] : List Str).take ((IntKind.wrap .i64 (2 + ((u_pick pC ((u_of pC p_c ([[116], [117]] : List Str)).2) 3).1))).toNat))).length : Int) - 1))).1)), (u_pick pC ((u_pick pC ((u_one pC (x168, x169) 3).2) (IntKind.wrap .i64 (((([] : List Str) ++ (([[107], [97], [98], [99, 99]] : List Str).take ((IntKind.wrap .i64 (2 + ((u_pick pC ((u_of pC p_c ([[116], [117]] : List Str)).2) 3).1))).toNat))).length : Int) - 1))).2) 4).1⟩ : DIdx)] : List DIdx) := OwnL.of_box (S := fun _ => False) hB626 (Nat.le_refl _) (Nat.lt_succ_self _) (EncL.cons (c := [.string (bs ((([[105], [106], [109]] : List Str).getD k102 d_Str))), .int .i64 (IntKind.wrap .i64 (1 + ((u_pick pC ((u_one pC (x168, x169) 3).2) (IntKind.wrap .i64 (((([] : List Str) ++ (([[107], [97], [98], [99, 99]] : List Str).take ((IntKind.wrap .i64 (2 + ((u_pick pC ((u_of pC p_c ([[116], [117]] : List Str)).2) 3).1))).toNat))).length : Int) - 1))).1))), .int .i64 ((u_pick pC ((u_pick pC ((u_one pC (x168, x169) 3).2) (IntKind.wrap .i64 (((([] : List Str) ++ (([[107], [97], [98], [99, 99]] : List Str).take ((IntKind.wrap .i64 (2 + ((u_pick pC ((u_of pC p_c ([[116], [117]] : List Str)).2) 3).1))).toNat))).length : Int) - 1))).2) 4).1)]) rfl rfl EncL.nil) (nb rfl) (fun h => h) (fun _ h => False.elim h)
     exact ⟨Chg.of_ex hE627, (some ⟨b622, 0, none⟩), rfl, OwnL.more (lo' := w618.heap.size) (hi' := w623.heap.size) hO628 oM oM⟩
    ·intro G629 L630 w631 hgp632
     have hE633 : Chg (fun b => InR [(b1, b1 + 1)] b ∨ w237.heap.size ≤ b) w237 w631 := hgp632.st.ex.imp (fun b _ h => h.imp (fun h => h.elim (fun h => h.2) (fun h => h.2)) (fun h => h))
     have hE633z := Chg.size hE633
     have hx636 := hgp632.old 4 _ rfl rfl
     obtain ⟨_, hx647, rfl⟩ := hgp632.val 1 38 rfl rfl
     obtain ⟨_, hx648, rfl, h649, h650, -⟩ := hgp632.val 8 45 rfl rfl
     obtain ⟨_, hx651, rfl, h652, h653, h654⟩ := hgp632.val 11 48 rfl rfl
     obtain ⟨_, hx655, A504_656, rfl, h657⟩ := hgp632.val 13 50 rfl rfl
     have hbz658 := Box.lt h654
     have hr659 := hgp632.st.rng 8 (hgp632.has 8 rfl)
     have hr660 := hgp632.st.rng 11 (hgp632.has 11 rfl)
     have hr661 := hgp632.st.rng 13 (hgp632.has 13 rfl)
     have hsp662 := hgp632.st.ord 11 8 (hgp632.has 11 rfl) rfl
     have hsp663 := hgp632.st.ord 13 8 (hgp632.has 13 rfl) rfl
     have hsp664 := hgp632.st.ord 13 11 (hgp632.has 13 rfl) rfl
     have q667 := OwnL.rd gI h657
     obtain ⟨nw668, he669, hs670⟩ := RdS.src q667
     refine sd rfl (yl_appendP (S := fun _ => False) (lo := lo174) (hi := u173) (xs := x170) (ys := ([(⟨(([[105], [106], [109]] : List Str).getD k102 d_Str), IntKind.wrap .i64 (1 + ((u_pick pC ((u_one pC (x168, x169) 3).2) (IntKind.wrap .i64 (((([] : List Str) ++ (([[107], [97], [98], [99, 99]] : List Str).take ((IntKind.wrap .i64 (2 + ((u_pick pC ((u_of pC p_c ([[116], [117]] : List Str)).2) 3).1))).toNat))).length : Int) - 1))).1)), (u_pick pC ((u_pick pC ((u_one pC (x168, x169) 3).2) (IntKind.wrap .i64 (((([] : List Str) ++ (([[107], [97], [98], [99, 99]] : List Str).take ((IntKind.wrap .i64 (2 + ((u_pick pC ((u_of pC p_c ([[116], [117]] : List Str)).2) 3).1))).toNat))).length : Int) - 1))).2) 4).1⟩ : DIdx)] : List DIdx)) un24 ty35 rfl (nb rfl) (fun _ => rfl) rfl hx647 hx655 (OwnL.chg gI (OwnL.chg gI hf227 hc240 Bk) hE633 Bk) he669 hs670 (RdS.len q667) Bl Bl oM oM oM ?_)
     intro A671 c672 w673 row674 lp675 hp676 hO677 hG678 hrg679 hdj680
     have hG678z := hG678.size
     refine sd rfl (yl_fieldAddr fd26_2 rfl hx636 (SeqR.u rfl rfl (yl_store (vs := [.slice A671 ((x170 ++ ([(⟨(([[105], [106], [109]] : List Str).getD k102 d_Str), IntKind.wrap .i64 (1 + ((u_pick pC ((u_one pC (x168, x169) 3).2) (IntKind.wrap .i64 (((([] : List Str) ++ (([[107], [97], [98], [99, 99]] : List Str).take ((IntKind.wrap .i64 (2 + ((u_pick pC ((u_of pC p_c ([[116], [117]] : List Str)).2) 3).1))).toNat))).length : Int) - 1))).1)), (u_pick pC ((u_pick pC ((u_one pC (x168, x169) 3).2) (IntKind.wrap .i64 (((([] : List Str) ++ (([[107], [97], [98], [99, 99]] : List Str).take ((IntKind.wrap .i64 (2 + ((u_pick pC ((u_of pC p_c ([[116], [117]] : List Str)).2) 3).1))).toNat))).length : Int) - 1))).2) 4).1⟩ : DIdx)] : List DIdx)).length) c672]) ty24 rfl rfl rfl rfl rfl rfl (Box.grown (Box.chg q494 hE633 (Bx (Box.lt q494))) hG678 (fun k hk => by have := hrg679 k hk; omega)) (nb rfl) ?_)))
     intro w683 hB684 hO685
     have hB684 : Box w683 b86 26 [.string (bs ((u_of pC p_c ([[116], [117]] : List Str)).1)), .slice A76 ((([] : List Str) ++ (([[107], [97], [98], [99, 99]] : List Str).take ((IntKind.wrap .i64 (2 + ((u_pick pC ((u_of pC p_c ([[116], [117]] : List Str)).2) 3).1))).toNat))).length) c77, .slice A671 ((x170 ++ ([(⟨(([[105], [106], [109]] : List Str).getD k102 d_Str), IntKind.wrap .i64 (1 + ((u_pick pC ((u_one pC (x168, x169) 3).2) (IntKind.wrap .i64 (((([] : List Str) ++ (([[107], [97], [98], [99, 99]] : List Str).take ((IntKind.wrap .i64 (2 + ((u_pick pC ((u_of pC p_c ([[116], [117]] : List Str)).2) 3).1))).toNat))).length : Int) - 1))).1)), (u_pick pC ((u_pick pC ((u_one pC (x168, x169) 3).2) (IntKind.wrap .i64 (((([] : List Str) ++ (([[107], [97], [98], [99, 99]] : List Str).take ((IntKind.wrap .i64 (2 + ((u_pick pC ((u_of pC p_c ([[116], [117]] : List Str)).2) 3).1))).toNat))).length : Int) - 1))).2) 4).1⟩ : DIdx)] : List DIdx)).length) c672] := hB684
     have hO685z := hO685.size
     refine SeqR.done (bn (tn (CW.sub (sC 0 (hgp632.old 0 _ rfl rfl) (sC 2 (hgp632.old 2 _ rfl rfl) (sC 4 hx636 (sC 19 (hgp632.old 19 _ rfl rfl) (sC 20 (hgp632.old 20 _ rfl rfl) (sC 21 (hgp632.old 21 _ rfl rfl) (sC 29 (hgp632.old 29 _ rfl rfl) (sC 30 (hgp632.old 30 _ rfl rfl) (sC 31 (hgp632.old 31 _ rfl rfl) (sC 32 (hgp632.old 32 _ rfl rfl) (sC 33 (hgp632.old 33 _ rfl rfl) (sC 34 (hgp632.old 34 _ rfl rfl) (sC 35 (hgp632.old 35 _ rfl rfl) (Sub.nil _)))))))))))))) (CW.region (sd rfl (yl_inc rfl rfl rfl oM (sM rfl (dn ?_))))))))
     have hB686 : B_u_table_0 pC p_c k102 (x168, x169, x170) = .cont (((u_pick pC ((u_pick pC ((u_one pC (x168, x169) 3).2) (IntKind.wrap .i64 (((([] : List Str) ++ (([[107], [97], [98], [99, 99]] : List Str).take ((IntKind.wrap .i64 (2 + ((u_pick pC ((u_of pC p_c ([[116], [117]] : List Str)).2) 3).1))).toNat))).length : Int) - 1))).2) 4).2).1, ((u_pick pC ((u_pick pC ((u_one pC (x168, x169) 3).2) (IntKind.wrap .i64 (((([] : List Str) ++ (([[107], [97], [98], [99, 99]] : List Str).take ((IntKind.wrap .i64 (2 + ((u_pick pC ((u_of pC p_c ([[116], [117]] : List Str)).2) 3).1))).toNat))).length : Int) - 1))).2) 4).2).2, (x170 ++ ([(⟨(([[105], [106], [109]] : List Str).getD k102 d_Str), IntKind.wrap .i64 (1 + ((u_pick pC ((u_one pC (x168, x169) 3).2) (IntKind.wrap .i64 (((([] : List Str) ++ (([[107], [97], [98], [99, 99]] : List Str).take ((IntKind.wrap .i64 (2 + ((u_pick pC ((u_of pC p_c ([[116], [117]] : List Str)).2) 3).1))).toNat))).length : Int) - 1))).1)), (u_pick pC ((u_pick pC ((u_one pC (x168, x169) 3).2) (IntKind.wrap .i64 (((([] : List Str) ++ (([[107], [97], [98], [99, 99]] : List Str).take ((IntKind.wrap .i64 (2 + ((u_pick pC ((u_of pC p_c ([[116], [117]] : List Str)).2) 3).1))).toNat))).length : Int) - 1))).2) 4).1⟩ : DIdx)] : List DIdx))) := by simp only [B_u_table_0, hb242, cL]
     have q692 := Box.chg hf224 hc240 (Bx (Box.lt hf224))
     exact ⟨3 - (k102 + 1), oM, k102 + 1, ((u_pick pC ((u_pick pC ((u_one pC (x168, x169) 3).2) (IntKind.wrap .i64 (((([] : List Str) ++ (([[107], [97], [98], [99, 99]] : List Str).take ((IntKind.wrap .i64 (2 + ((u_pick pC ((u_of pC p_c ([[116], [117]] : List Str)).2) 3).1))).toNat))).length : Int) - 1))).2) 4).2).1, ((u_pick pC ((u_pick pC ((u_one pC (x168, x169) 3).2) (IntKind.wrap .i64 (((([] : List Str) ++ (([[107], [97], [98], [99, 99]] : List Str).take ((IntKind.wrap .i64 (2 + ((u_pick pC ((u_of pC p_c ([[116], [117]] : List Str)).2) 3).1))).toNat))).length : Int) - 1))).2) 4).2).2, (x170 ++ ([(⟨(([[105], [106], [109]] : List Str).getD k102 d_Str), IntKind.wrap .i64 (1 + ((u_pick pC ((u_one pC (x168, x169) 3).2) (IntKind.wrap .i64 (((([] : List Str) ++ (([[107], [97], [98], [99, 99]] : List Str).take ((IntKind.wrap .i64 (2 + ((u_pick pC ((u_of pC p_c ([[116], [117]] : List Str)).2) 3).1))).toNat))).length : Int) - 1))).1)), (u_pick pC ((u_pick pC ((u_one pC (x168, x169) 3).2) (IntKind.wrap .i64 (((([] : List Str) ++ (([[107], [97], [98], [99, 99]] : List Str).take ((IntKind.wrap .i64 (2 + ((u_pick pC ((u_of pC p_c ([[116], [117]] : List Str)).2) 3).1))).toNat))).length : Int) - 1))).2) 4).1⟩ : DIdx)] : List DIdx)), A671, c672, hp676, lp675, rfl, hlt234, oM, rfl, rfl, rfl, rfl, rfl, rfl, (Box.only (Box.grown h654 hG678 (fun k hk => by have := hrg679 k hk; omega)) hO685 oM), (RdS.only gU (RdS.grown gU (RdS.chg gU q495 hE633 Bi) hG678 (fun k hk => by have := hrg679 k hk; simp only [Iv]; omega)) hO685 (by simp only [Iv]; omega)), (Box.only (Box.grown (Box.chg q692 hE633 (Bx (Box.lt q692))) hG678 (fun k hk => by have := hrg679 k hk; omega)) hO685 oM), hB684, (OwnL.only gS (OwnL.grown gS (OwnL.chg gS (OwnL.chg gS hf226 hc240 Bk) hE633 Bk) hG678 (fun k hk => by have := hrg679 k hk; omega)) hO685 oM), (OwnL.only gI hO677 hO685 oM), (OwnL.only gS (OwnL.grown gS (OwnL.chg gS (OwnL.chg gS hf228 hc240 Bk) hE633 Bk) hG678 (fun k hk => by have := hrg679 k hk; omega)) hO685 oM), (Chg.tonly (Chg.tgrown (Chg.tchg (Chg.tchg hf229 hc240 (fun k hk => by simp only [InR, or_false] at hk ⊢; omega)) hE633 (fun k hk => by simp only [InR, or_false] at hk ⊢; omega)) hG678 (fun k hk => by have := hrg679 k hk; simp only [InR, or_false]; omega)) hO685 (by simp only [InR, or_false]; omega)), oM, Bl, (okE.append hok232 ((okL.mk (nb rfl) (okE.cons (show ok_Idx (⟨(([[105], [106], [109]] : List Str).getD k102 d_Str), IntKind.wrap .i64 (1 + ((u_pick pC ((u_one pC (x168, x169) 3).2) (IntKind.wrap .i64 (((([] : List Str) ++ (([[107], [97], [98], [99, 99]] : List Str).take ((IntKind.wrap .i64 (2 + ((u_pick pC ((u_of pC p_c ([[116], [117]] : List Str)).2) 3).1))).toNat))).length : Int) - 1))).1)), (u_pick pC ((u_pick pC ((u_one pC (x168, x169) 3).2) (IntKind.wrap .i64 (((([] : List Str) ++ (([[107], [97], [98], [99, 99]] : List Str).take ((IntKind.wrap .i64 (2 + ((u_pick pC ((u_of pC p_c ([[116], [117]] : List Str)).2) 3).1))).toNat))).length : Int) - 1))).2) 4).1⟩ : DIdx) from (okL.getD (okL.mk (nb rfl) (okE.cons (okS.lit rfl) (okE.cons (okS.lit rfl) (okE.cons (okS.lit rfl) okE.nil)))) ok_d_Str _)) okE.nil))).2), Bo, (loopM.cont hlt234 hB686).symm.trans hI214⟩
  ·refine cR (sd rfl (yl_lss rfl rfl rfl (dn (CW.seq (CW.cond_f rfl (lt_f hlt234) (CW.exit (tx ?_)))))))
   refine tx ?_
   have hL709 : loopM (B_u_table_0 pC p_c) (3 - 0) 0 (((u_pick pC ((u_of pC p_c ([[116], [117]] : List Str)).2) 3).2).1, ((u_pick pC ((u_of pC p_c ([[116], [117]] : List Str)).2) 3).2).2, ([] : List DIdx)) = .done (x168, x169, x170) := hI214.symm.trans (loopM.stop hlt234)
   refine bx (tn (cR (sd rfl (yl_loadN ty26 rfl rfl (hf225.cells (n := 3) rfl) rfl (SeqR.u rfl rfl (yl_store (vs := [.string (bs ((u_of pC p_c ([[116], [117]] : List Str)).1)), .slice A76 ((([] : List Str) ++ (([[107], [97], [98], [99, 99]] : List Str).take ((IntKind.wrap .i64 (2 + ((u_pick pC ((u_of pC p_c ([[116], [117]] : List Str)).2) 3).1))).toNat))).length) c77, .slice A171 x170.length c172]) ty26 rfl rfl rfl rfl rfl rfl hf224 (nb rfl) ?_))))))
   intro w710 hB711 hO712
   have hB711 : Box w710 b9 26 [.string (bs ((u_of pC p_c ([[116], [117]] : List Str)).1)), .slice A76 ((([] : List Str) ++ (([[107], [97], [98], [99, 99]] : List Str).take ((IntKind.wrap .i64 (2 + ((u_pick pC ((u_of pC p_c ([[116], [117]] : List Str)).2) 3).1))).toNat))).length) c77, .slice A171 x170.length c172] := hB711
   have hO712z := hO712.size
   refine dn (CW.ret (rr rfl (.cons ⟨_, rfl, run_loadN ty26 (cs := [.string (bs ((u_of pC p_c ([[116], [117]] : List Str)).1)), .slice A76 ((([] : List Str) ++ (([[107], [97], [98], [99, 99]] : List Str).take ((IntKind.wrap .i64 (2 + ((u_pick pC ((u_of pC p_c ([[116], [117]] : List Str)).2) 3).1))).toNat))).length) c77, .slice A171 x170.length c172]) rfl (hB711.cells (n := 3) rfl)⟩ .nil) ?_))
   have hM713 : (u_table pC p_c) = (((⟨(u_of pC p_c ([[116], [117]] : List Str)).1, (([] : List Str) ++ (([[107], [97], [98], [99, 99]] : List Str).take ((IntKind.wrap .i64 (2 + ((u_pick pC ((u_of pC p_c ([[116], [117]] : List Str)).2) 3).1))).toNat))), x170⟩ : DTable), (x168, x169))) := by first | (simp only [u_table, hL709, cL]; done) | (simp only [u_table, hL709, cond_true, cond_false, loopE_done, loopE_ret, pairE]; done) | exact (show (u_table pC p_c) = (((⟨(u_of pC p_c ([[116], [117]] : List Str)).1, (([] : List Str) ++ (([[107], [97], [98], [99, 99]] : List Str).take ((IntKind.wrap .i64 (2 + ((u_pick pC ((u_of pC p_c ([[116], [117]] : List Str)).2) 3).1))).toNat))), x170⟩ : DTable), (x168, x169))) from by simp only [u_table, hL709, cond_true, cond_false, loopE_done, loopE_ret, pairE])
   have hol716 : (([[107], [97], [98], [99, 99]] : List Str).take ((IntKind.wrap .i64 (2 + ((u_pick pC ((u_of pC p_c ([[116], [117]] : List Str)).2) 3).1))).toNat)).length ≤ 2147483648 := (okL.take (okL.mk (nb rfl) (okE.cons (okS.lit rfl) (okE.cons (okS.lit rfl) (okE.cons (okS.lit rfl) (okE.cons (okS.lit rfl) okE.nil))))) _).1
   rw [hM713]
   exact ⟨A76, c77, lp80, hp81, A171, c172, lo174, u173, rfl, (OwnL.only gS hf226 hO712 oM), (OwnL.only gI hf227 hO712 oM), ⟨ho37, (okL.mk (xs := (([] : List Str) ++ (([[107], [97], [98], [99, 99]] : List Str).take ((IntKind.wrap .i64 (2 + ((u_pick pC ((u_of pC p_c ([[116], [117]] : List Str)).2) 3).1))).toNat)))) Bl (okE.append okE.nil ((okL.take (okL.mk (nb rfl) (okE.cons (okS.lit rfl) (okE.cons (okS.lit rfl) (okE.cons (okS.lit rfl) (okE.cons (okS.lit rfl) okE.nil))))) _)).2)), (okL.mk (xs := x170) Bl hok232)⟩, (by (try dsimp only); first | omega | assumption | (simp only [List.length_append, List.length_take, List.length_drop, List.length_cons, List.length_nil, toS_length, wI]; omega) | (simp only [wI] at *; omega)), (by (try dsimp only); first | omega | assumption | (simp only [List.length_append, List.length_take, List.length_drop, List.length_cons, List.length_nil, toS_length, wI]; omega) | (simp only [wI] at *; omega)), (by (try dsimp only); first | omega | assumption | (simp only [List.length_append, List.length_take, List.length_drop, List.length_cons, List.length_nil, toS_length, wI]; omega) | (simp only [wI] at *; omega)), (Box.only hf222 hO712 oM), oM, oM, oM, (Chg.tonly hf229 hO712 (by simp only [InR, or_false]; omega))⟩
theorem c_u_bentTable {A3 : Option Addr} {c3 : Nat} {slo3 shi3 : Nat} {b1 : Nat} {w : World} (pC : List Int) (p_c : Int × Int) (h2 : Box w b1 78 [.slice A3 pC.length c3, .int .i64 (p_c.1), .int .u64 (p_c.2)]) (h3 : RdS w (Iv slo3 shi3) (RF e_U8) 1 A3 pC.length c3 pC) (hrn4 : shi3 ≤ w.heap.size) (hrn5 : b1 < slo3 ∨ shi3 ≤ b1) (o6 : (okL okT) pC) (pre0 : (0 ≤ p_c.1 ∧ p_c.1 ≤ 4611686018427387776)) (pre1 : codeOk pC) : Cal Tryz.prog 48 #[.pointer (some ⟨b1, 0, none⟩)] w fun v w' => ∃ A_1 c_1 A_2 c_2 lo_2 hi_2, v = .agg #[.string (bs ((u_bentTable pC p_c).1.Name)), .slice A_1 (((u_bentTable pC p_c).1.Cols).length) c_1, .slice A_2 (((u_bentTable pC p_c).1.Idxs).length) c_2] ∧ RdS w' (Iv w.heap.size w'.heap.size) (RF e_Str) 1 A_1 ((u_bentTable pC p_c).1.Cols).length c_1 ((u_bentTable pC p_c).1.Cols) ∧ OwnL w' lo_2 hi_2 35 3 (RF e_Idx) A_2 (((u_bentTable pC p_c).1.Idxs).length) c_2 ((u_bentTable pC p_c).1.Idxs) ∧ ok_Table ((u_bentTable pC p_c).1) ∧ (p_c.1 ≤ ((u_bentTable pC p_c).2).1 ∧ ((u_bentTable pC p_c).2).1 ≤ p_c.1 + 128) ∧ Box w' b1 78 [.slice A3 pC.length c3, .int .i64 (((u_bentTable pC p_c).2).1), .int .u64 (((u_bentTable pC p_c).2).2)] ∧ (w.heap.size ≤ lo_2 ∧ lo_2 ≤ hi_2 ∧ hi_2 ≤ w'.heap.size) ∧ Chg (InR [(b1, b1 + 1)]) w w' := by
 have hol7 := o6.1
 have hbx8 := Box.lt h2
 refine Cal.of func48 rfl ntmps48 rfl (cR (sd rfl (yB ty26 (cs := [.string (bs (([] : Str))), .slice none 0 0, .slice none 0 0]) rfl rfl ?_)))
 intro b9 w10 hs11 hz12 hB13 hE14
 refine dn (cR (sM rfl ?_))
 have q16 := RdS.ex gU h3 hE14
 refine sd rfl (yC en52 rfl (oc rfl oz) (Cal.mono (c_u_table pC p_c (Box.ex h2 hE14) q16 oM oM o6 oM (by assumption)) ?_))
 rintro v24 w17 ⟨A18, c18, lo18, hi18, A19, c19, lo19, hi19, rfl, h18, h19, ho20, hp21, hp22, hp23, hB26, hrn27, hrn28, hrn29, hc25⟩
 have hc25z := Chg.size hc25
 have hB26z := Box.lt hB26
 have hrf30 := rf_table (c := pC) (by assumption) p_c
 refine sd rfl (yB ty26 (cs := [.string (bs (([] : Str))), .slice none 0 0, .slice none 0 0]) rfl rfl ?_)
 intro b31 w32 hs33 hz34 hB35 hE36
 refine SeqR.u rfl rfl (yl_store (vs := [.string (bs ((u_table pC p_c).1.Name)), .slice A18 (((u_table pC p_c).1.Cols).length) c18, .slice A19 (((u_table pC p_c).1.Idxs).length) c19]) ty26 rfl rfl rfl rfl rfl rfl hB35 (nb rfl) ?_)
 intro w37 hB38 hO39
 have hB38 : Box w37 b31 26 [.string (bs ((u_table pC p_c).1.Name)), .slice A18 (((u_table pC p_c).1.Cols).length) c18, .slice A19 (((u_table pC p_c).1.Idxs).length) c19] := hB38
 have hO39z := hO39.size
 refine dn (CW.seq (cR (sM rfl ?_)))
 have q44 := RdS.only gU (RdS.ex gU (RdS.chg gU q16 hc25 Bi) hE36) hO39 (by simp only [Iv]; omega)
 refine sd rfl (yC en50 rfl (oc rfl (oc rfl oz)) (Cal.mono (c_u_pick pC ((u_table pC p_c).2) 14 (Box.only (Box.ex hB26 hE36) hO39 oM) q44 oM oM o6 oM (by assumption)) ?_))
 rintro v48 w45 ⟨rfl, hp46, hp47, hB50, hc49⟩
 have hc49z := Chg.size hc49
 have hB50z := Box.lt hB50
 refine dn (CW.block (cR (sd rfl (yl_eql rfl rfl rfl (sA rfl (dn ?_))))))
 refine bcase (decide (((u_pick pC ((u_table pC p_c).2) 14).1) = 0)) (fun hb51 => ?_) (fun hb51 => ?_)
 ·have hb51p := dec_t hb51
  refine CW.cond_t rfl hb51 (CW.region (sM rfl (sd rfl (yl_buildSlice (cs := [.string (bs (([] : Str))), .string (bs (([116, 116] : Str))), .string (bs (([84] : Str)))]) un23 ty9 (by decide) rfl (oc rfl (oc rfl (oc rfl oz))) (by kernel_rfl) ?_))))
  intro b52 w53 hs54 hz55 hB56 hE57
  have hO58 : OwnL w53 b52 (b52 + 1) 9 1 (RF e_Str) (some ⟨b52, 0, none⟩) 3 3 ([[], [116, 116], [84]] : List Str) := OwnL.of_box (S := fun _ => False) hB56 (Nat.le_refl _) (Nat.lt_succ_self _) (EncL.cons (c := [.string (bs (([] : Str)))]) rfl rfl (EncL.cons (c := [.string (bs (([116, 116] : Str)))]) rfl rfl (EncL.cons (c := [.string (bs (([84] : Str)))]) rfl rfl EncL.nil))) (nb rfl) (fun h => h) (fun _ h => False.elim h)
  have hle62 := OwnL.len hO58
  refine sd rfl (yC en59 rfl (oc rfl (oc rfl oz)) (Cal.mono (Cal.args (by rw [← hle62] <;> rfl) (c_u_of pC ((u_pick pC ((u_table pC p_c).2) 14).2) ([[], [116, 116], [84]] : List Str) (Box.ex hB50 hE57) (RdS.ex gU (RdS.chg gU q44 hc49 Bi) hE57) oM oM (RdS.fix (OwnL.rdI gS hO58)) oM oM o6 (okL.mk (nb rfl) (okE.cons (okS.lit rfl) (okE.cons (okS.lit rfl) (okE.cons (okS.lit rfl) okE.nil)))) (by first | omega | assumption | (simp only [wI] at *; omega) | (simp only [lN]; omega)) oM (by assumption))) ?_))
  rintro v66 w63 ⟨rfl, ho64, hp65, hB68, hc67⟩
  have hc67z := Chg.size hc67
  have hB68z := Box.lt hB68
  have hrf69 := of_len 2 pC ((u_pick pC ((u_table pC p_c).2) 14).2) ([[], [116, 116], [84]] : List Str) (by decide)
  refine sd rfl (yl_fieldAddr fd26_0 rfl rfl ?_)
  have q71 := Box.ex (Box.chg hB38 hc49 (Bx (Box.lt hB38))) hE57
  refine SeqR.u rfl rfl (yl_store (vs := [.string (bs ((u_of pC ((u_pick pC ((u_table pC p_c).2) 14).2) ([[], [116, 116], [84]] : List Str)).1))]) ty9 rfl rfl rfl rfl rfl rfl (Box.chg q71 hc67 (Bx (Box.lt q71))) (nb rfl) ?_)
  intro w73 hB74 hO75
  have hB74 : Box w73 b31 26 [.string (bs ((u_of pC ((u_pick pC ((u_table pC p_c).2) 14).2) ([[], [116, 116], [84]] : List Str)).1)), .slice A18 (((u_table pC p_c).1.Cols).length) c18, .slice A19 (((u_table pC p_c).1.Idxs).length) c19] := hB74
  have hO75z := hO75.size
  refine SeqR.done (bn (tn (cR (sd rfl (yl_loadN ty26 rfl rfl (hB74.cells (n := 3) rfl) rfl ?_)))))
  have q78 := Box.only (Box.ex (Box.chg hB13 hc25 (Bx (Box.lt hB13))) hE36) hO39 oM
  have q80 := Box.ex (Box.chg q78 hc49 (Bx (Box.lt q78))) hE57
  refine SeqR.u rfl rfl (yl_store (vs := [.string (bs ((u_of pC ((u_pick pC ((u_table pC p_c).2) 14).2) ([[], [116, 116], [84]] : List Str)).1)), .slice A18 (((u_table pC p_c).1.Cols).length) c18, .slice A19 (((u_table pC p_c).1.Idxs).length) c19]) ty26 rfl rfl rfl rfl rfl rfl (Box.only (Box.chg q80 hc67 (Bx (Box.lt q80))) hO75 oM) (nb rfl) ?_)
  intro w83 hB84 hO85
  have hB84 : Box w83 b9 26 [.string (bs ((u_of pC ((u_pick pC ((u_table pC p_c).2) 14).2) ([[], [116, 116], [84]] : List Str)).1)), .slice A18 (((u_table pC p_c).1.Cols).length) c18, .slice A19 (((u_table pC p_c).1.Idxs).length) c19] := hB84
  have hO85z := hO85.size
  refine dn (CW.ret (rr rfl (.cons ⟨_, rfl, run_loadN ty26 (cs := [.string (bs ((u_of pC ((u_pick pC ((u_table pC p_c).2) 14).2) ([[], [116, 116], [84]] : List Str)).1)), .slice A18 (((u_table pC p_c).1.Cols).length) c18, .slice A19 (((u_table pC p_c).1.Idxs).length) c19]) rfl (hB84.cells (n := 3) rfl)⟩ .nil) ?_))
  have hM86 : (u_bentTable pC p_c) = (((⟨(u_of pC ((u_pick pC ((u_table pC p_c).2) 14).2) ([[], [116, 116], [84]] : List Str)).1, (u_table pC p_c).1.Cols, (u_table pC p_c).1.Idxs⟩ : DTable), (((u_of pC ((u_pick pC ((u_table pC p_c).2) 14).2) ([[], [116, 116], [84]] : List Str)).2).1, ((u_of pC ((u_pick pC ((u_table pC p_c).2) 14).2) ([[], [116, 116], [84]] : List Str)).2).2))) := by first | (simp only [u_bentTable, hb51, cL]; done) | (simp only [u_bentTable, hb51, cond_true, cond_false, loopE_done, loopE_ret, pairE]; done) | exact (show (u_bentTable pC p_c) = (((⟨(u_of pC ((u_pick pC ((u_table pC p_c).2) 14).2) ([[], [116, 116], [84]] : List Str)).1, (u_table pC p_c).1.Cols, (u_table pC p_c).1.Idxs⟩ : DTable), ((u_of pC ((u_pick pC ((u_table pC p_c).2) 14).2) ([[], [116, 116], [84]] : List Str)).2))) from by simp only [u_bentTable, hb51, cond_true, cond_false, loopE_done, loopE_ret, pairE])
  rw [hM86]
  have q111 := Chg.tonly (Chg.tchg (Chg.tex (Chg.tchg (Chg.tonly (Chg.tex (Chg.tchg (Chg.tex (Chg.refl (InR [(b1, b1 + 1)]) w) hE14) hc25 (fun k hk => by simp only [InR, or_false] at hk ⊢; omega)) hE36) hO39 (by simp only [InR, or_false]; omega)) hc49 (fun k hk => by simp only [InR, or_false] at hk ⊢; omega)) hE57) hc67 (fun k hk => by simp only [InR, or_false] at hk ⊢; omega)) hO75 (by simp only [InR, or_false]; omega)
  exact ⟨A18, c18, A19, c19, lo19, hi19, rfl, (RdS.wideI gS (OwnL.rd gS (OwnL.only gS (OwnL.only gS (OwnL.chg gS (OwnL.ex gS (OwnL.chg gS (OwnL.only gS (OwnL.ex gS h18 hE36) hO39 oM) hc49 Bk) hE57) hc67 Bk) hO75 oM) hO85 oM)) oM), (OwnL.only gI (OwnL.only gI (OwnL.chg gI (OwnL.ex gI (OwnL.chg gI (OwnL.only gI (OwnL.ex gI h19 hE36) hO39 oM) hc49 Bk) hE57) hc67 Bk) hO75 oM) hO85 oM), ⟨ho64, ho20.2.1, ho20.2.2⟩, (by (try dsimp only); first | omega | assumption | (simp only [wI] at *; omega)), (Box.only (Box.only hB68 hO75 oM) hO85 oM), oM, (Chg.tonly q111 hO85 (by simp only [InR, or_false]; omega))⟩
 ·have hb51p := dec_f hb51
  refine CW.cond_f rfl hb51 (cR (sd rfl (yl_eql rfl rfl rfl (sA rfl (dn (bcase (decide (((u_pick pC ((u_table pC p_c).2) 14).1) = 1)) (fun hb113 => ?_) (fun hb113 => ?_)))))))
  ·have hb113p := dec_t hb113
   refine CW.cond_t rfl hb113 ?_
   have q114 := Box.chg hB38 hc49 (Bx (Box.lt hB38))
   have hrf126 := of_len 4 pC ((u_pick pC ((u_table pC p_c).2) 14).2) ([[97], [97, 98, 99, 100], [], [100]] : List Str) (by decide)
   refine CW.drawsG 6 (fun G b => G.dn 4 = true ∧ InR [(b1, b1 + 1)] b) (fun i G b => (i = 4 ∧ b1 ≤ b ∧ b < b1 + 1)) (vgetG [DetG (.pointer (some ⟨b31, 0 + 1, none⟩)), DetG (.slice A18 (((u_table pC p_c).1.Cols).length) c18), DetG (.pointer (some ⟨b1, 0, none⟩)), fun G v wq => ∃ A115, v = .slice A115 4 4 ∧ OwnL wq (G.fl 3) (G.fh 3) 9 1 (RF e_Str) A115 4 4 ([[97], [97, 98, 99, 100], [], [100]] : List Str), fun G v wq => v = .string (bs ((u_of pC ((u_pick pC ((u_table pC p_c).2) 14).2) ([[97], [97, 98, 99, 100], [], [100]] : List Str)).1)) ∧ okS ((u_of pC ((u_pick pC ((u_table pC p_c).2) 14).2) ([[97], [97, 98, 99, 100], [], [100]] : List Str)).1) ∧ (((u_pick pC ((u_table pC p_c).2) 14).2).1 ≤ ((u_of pC ((u_pick pC ((u_table pC p_c).2) 14).2) ([[97], [97, 98, 99, 100], [], [100]] : List Str)).2).1 ∧ ((u_of pC ((u_pick pC ((u_table pC p_c).2) 14).2) ([[97], [97, 98, 99, 100], [], [100]] : List Str)).2).1 ≤ ((u_pick pC ((u_table pC p_c).2) 14).2).1 + 2) ∧ Box wq b1 78 [.slice A3 pC.length c3, .int .i64 (((u_of pC ((u_pick pC ((u_table pC p_c).2) 14).2) ([[97], [97, 98, 99, 100], [], [100]] : List Str)).2).1), .int .u64 (((u_of pC ((u_pick pC ((u_table pC p_c).2) 14).2) ([[97], [97, 98, 99, 100], [], [100]] : List Str)).2).2)], fun G v wq => ∃ A123, v = .slice A123 1 1 ∧ OwnL wq (G.fl 5) (G.fh 5) 9 1 (RF e_Str) A123 1 1 ([(u_of pC ((u_pick pC ((u_table pC p_c).2) 14).2) ([[97], [97, 98, 99, 100], [], [100]] : List Str)).1] : List Str)]) Tryz.follows rfl rfl rfl rfl rfl rfl (fun _ _ _ _ _ h => ⟨Gh.udn h.1, h.2⟩) (fun i G w lo hi b K hn hh hp => by exact (match hp with | ⟨e, q1, q2⟩ => by subst e; exact .inl ⟨Gh.sdn, .inl ⟨q1, q2⟩⟩)) (vgetG_kept ⟨(KeptG.det _), (KeptG.det _), (KeptG.det _), (by rintro i G v w w' K hn hh hj ⟨A115, hv, h0⟩ e; have d3 : G.dn 3 = true := hj; have u3 := Gh.ufl (lo := w.heap.size) (hi := w'.heap.size) d3 hn; have t3 := Gh.ufh (lo := w.heap.size) (hi := w'.heap.size) d3 hn; exact ⟨A115, hv, (by simp only [u3, t3]; exact OwnL.chg gS h0 e (fun b hb hp => by obtain ⟨rfl, q1, q2⟩ := hp; have := K.rng 3 d3; skip; omega))⟩), (by rintro i G v w w' K hn hh hj ⟨hv, h0, h1, h2⟩ e; exact ⟨hv, h0, h1, (by exact Box.chg h2 e (fun hp => by obtain ⟨rfl, q1, q2⟩ := hp; rw [hj] at hn; cases hn))⟩), (by rintro i G v w w' K hn hh hj ⟨A123, hv, h0⟩ e; have d5 : G.dn 5 = true := hj; have u5 := Gh.ufl (lo := w.heap.size) (hi := w'.heap.size) d5 hn; have t5 := Gh.ufh (lo := w.heap.size) (hi := w'.heap.size) d5 hn; exact ⟨A123, hv, (by simp only [u5, t5]; exact OwnL.chg gS h0 e (fun b hb hp => by obtain ⟨rfl, q1, q2⟩ := hp; rw [K.cl 5 4 hj rfl] at hn; cases hn))⟩), trivial⟩) ⟨?_, ?_, ?_, ?_, ?_, ?_, trivial⟩ ?_
   ·intro L128 w129 G127 hgk130
    have hE131 : Chg (fun b => InR [(b1, b1 + 1)] b ∨ w45.heap.size ≤ b) w45 w129 := hgk130.st.ex.imp (fun b _ h => h.imp (fun h => h.2) (fun h => h))
    have hE131z := Chg.size hE131
    exact OpR.op' rfl (Yl.sameG (yl_fieldAddr fd26_1 rfl (hgk130.old 3 _ rfl rfl) kI))
   ·intro L134 w135 G133 hgk136
    have hE137 : Chg (fun b => InR [(b1, b1 + 1)] b ∨ w45.heap.size ≤ b) w45 w135 := hgk136.st.ex.imp (fun b _ h => h.imp (fun h => h.2) (fun h => h))
    have hE137z := Chg.size hE137
    obtain ⟨_, hx138, rfl⟩ := hgk136.val 0 16 rfl rfl
    exact OpR.op' rfl (Yl.sameG (yl_load1 ty23 rfl hx138 (((Box.chg q114 hE137 (Bx (Box.lt q114))).cell 1).trans rfl) kI))
   ·intro L141 w142 G140 hgk143
    have hE144 := hgk143.st.ex.ex (fun b h => h.elim (fun h => hgk143.no rfl h) (fun h => h))
    have hE144z := Ex.size hE144
    exact OpR.op' rfl (Yl.sameG (yM rfl (hgk143.old 0 _ rfl rfl) kI))
   ·intro L147 w148 G146 hgk149
    have hE150 := hgk149.st.ex.ex (fun b h => h.elim (fun h => hgk149.no rfl h) (fun h => h))
    have hE150z := Ex.size hE150
    refine OpR.op' rfl (yl_buildSlice (cs := [.string (bs (([97] : Str))), .string (bs (([97, 98, 99, 100] : Str))), .string (bs (([] : Str))), .string (bs (([100] : Str)))]) un23 ty9 (by decide) rfl (oc rfl (oc rfl (oc rfl (oc rfl oz)))) (by kernel_rfl) ?_)
    intro b151 w152 hs153 hz154 hB155 hE156
    have hO157 : OwnL w152 b151 (b151 + 1) 9 1 (RF e_Str) (some ⟨b151, 0, none⟩) 4 4 ([[97], [97, 98, 99, 100], [], [100]] : List Str) := OwnL.of_box (S := fun _ => False) hB155 (Nat.le_refl _) (Nat.lt_succ_self _) (EncL.cons (c := [.string (bs (([97] : Str)))]) rfl rfl (EncL.cons (c := [.string (bs (([97, 98, 99, 100] : Str)))]) rfl rfl (EncL.cons (c := [.string (bs (([] : Str)))]) rfl rfl (EncL.cons (c := [.string (bs (([100] : Str)))]) rfl rfl EncL.nil)))) (nb rfl) (fun h => h) (fun _ h => False.elim h)
    exact ⟨Chg.of_ex hE156, (some ⟨b151, 0, none⟩), rfl, OwnL.more (lo' := w148.heap.size) (hi' := w152.heap.size) hO157 oM oM⟩
   ·intro L159 w160 G158 hgk161
    have hE162 := hgk161.st.ex.ex (fun b h => h.elim (fun h => hgk161.nw h) (fun h => h))
    have hE162z := Ex.size hE162
    obtain ⟨_, hx163, rfl⟩ := hgk161.val 2 18 rfl rfl
    obtain ⟨_, hx164, A115_165, rfl, h166⟩ := hgk161.val 3 19 rfl rfl
    have hr167 := hgk161.st.rng 3 (hgk161.has 3 rfl)
    have hle170 := OwnL.len h166
    refine OpR.op' rfl (yC en59 rfl (oc hx163 (oc hx164 oz)) (Cal.mono (Cal.args (by rw [← hle170] <;> rfl) (c_u_of pC ((u_pick pC ((u_table pC p_c).2) 14).2) ([[97], [97, 98, 99, 100], [], [100]] : List Str) (Box.ex hB50 hE162) (RdS.ex gU (RdS.chg gU q44 hc49 Bi) hE162) oM oM (RdS.fix (OwnL.rdI gS h166)) oM oM o6 (okL.mk (nb rfl) (okE.cons (okS.lit rfl) (okE.cons (okS.lit rfl) (okE.cons (okS.lit rfl) (okE.cons (okS.lit rfl) okE.nil))))) (by first | omega | assumption | (simp only [wI] at *; omega) | (simp only [lN]; omega)) oM (by assumption))) ?_))
    rintro v174 w171 ⟨rfl, ho172, hp173, hB176, hE175⟩
    exact ⟨hE175.imp (fun k _ hk => hk.elim (fun hk => (⟨rfl, hk.1, hk.2⟩)) False.elim), rfl, ho172, hp173, hB176⟩
   ·intro L178 w179 G177 hgk180
    have hE181 : Chg (fun b => InR [(b1, b1 + 1)] b ∨ w45.heap.size ≤ b) w45 w179 := hgk180.st.ex.imp (fun b _ h => h.imp (fun h => h.2) (fun h => h))
    have hE181z := Chg.size hE181
    obtain ⟨_, hx182, rfl, h183, h184, h185⟩ := hgk180.val 4 20 rfl rfl
    have hr186 := hgk180.st.rng 4 (hgk180.has 4 rfl)
    refine OpR.op' rfl (yl_buildSlice (cs := [.string (bs ((u_of pC ((u_pick pC ((u_table pC p_c).2) 14).2) ([[97], [97, 98, 99, 100], [], [100]] : List Str)).1))]) un23 ty9 (by decide) rfl (oc hx182 oz) (by kernel_rfl) ?_)
    intro b187 w188 hs189 hz190 hB191 hE192
    have hO193 : OwnL w188 b187 (b187 + 1) 9 1 (RF e_Str) (some ⟨b187, 0, none⟩) 1 1 ([(u_of pC ((u_pick pC ((u_table pC p_c).2) 14).2) ([[97], [97, 98, 99, 100], [], [100]] : List Str)).1] : List Str) := OwnL.of_box (S := fun _ => False) hB191 (Nat.le_refl _) (Nat.lt_succ_self _) (EncL.cons (c := [.string (bs ((u_of pC ((u_pick pC ((u_table pC p_c).2) 14).2) ([[97], [97, 98, 99, 100], [], [100]] : List Str)).1))]) rfl rfl EncL.nil) (nb rfl) (fun h => h) (fun _ h => False.elim h)
    exact ⟨Chg.of_ex hE192, (some ⟨b187, 0, none⟩), rfl, OwnL.more (lo' := w179.heap.size) (hi' := w188.heap.size) hO193 oM oM⟩
   ·intro G194 L195 w196 hgp197
    have hE198 : Chg (fun b => InR [(b1, b1 + 1)] b ∨ w45.heap.size ≤ b) w45 w196 := hgp197.st.ex.imp (fun b _ h => h.imp (fun h => h.2) (fun h => h))
    have hE198z := Chg.size hE198
    have hx200 := hgp197.old 3 _ rfl rfl
    obtain ⟨_, hx201, rfl⟩ := hgp197.val 1 17 rfl rfl
    obtain ⟨_, hx202, A115_203, rfl, h204⟩ := hgp197.val 3 19 rfl rfl
    obtain ⟨_, hx205, rfl, h206, h207, h208⟩ := hgp197.val 4 20 rfl rfl
    obtain ⟨_, hx209, A123_210, rfl, h211⟩ := hgp197.val 5 21 rfl rfl
    have hbz212 := Box.lt h208
    have hr213 := hgp197.st.rng 3 (hgp197.has 3 rfl)
    have hr214 := hgp197.st.rng 4 (hgp197.has 4 rfl)
    have hr215 := hgp197.st.rng 5 (hgp197.has 5 rfl)
    have hsp216 := hgp197.st.ord 4 3 (hgp197.has 4 rfl) rfl
    have hsp217 := hgp197.st.ord 5 3 (hgp197.has 5 rfl) rfl
    have hsp218 := hgp197.st.ord 5 4 (hgp197.has 5 rfl) rfl
    have q223 := OwnL.rd gS h211
    obtain ⟨nw224, he225, hs226⟩ := RdS.src q223
    have hol227 : ((u_table pC p_c).1.Cols).length ≤ 2147483648 := ho20.2.1.1
    refine sd rfl (yl_appendP (S := fun _ => False) (lo := lo18) (hi := hi18) (xs := (u_table pC p_c).1.Cols) (ys := ([(u_of pC ((u_pick pC ((u_table pC p_c).2) 14).2) ([[97], [97, 98, 99, 100], [], [100]] : List Str)).1] : List Str)) un23 ty9 rfl (nb rfl) (fun _ => rfl) rfl hx201 hx209 (OwnL.chg gS (OwnL.chg gS (OwnL.only gS (OwnL.ex gS h18 hE36) hO39 oM) hc49 Bk) hE198 Bk) he225 hs226 (RdS.len q223) Bl Bl oM oM oM ?_)
    intro A228 c229 w230 row231 lp232 hp233 hO234 hG235 hrg236 hdj237
    have hG235z := hG235.size
    refine sd rfl (yl_fieldAddr fd26_1 rfl hx200 (SeqR.u rfl rfl (yl_store (vs := [.slice A228 (((u_table pC p_c).1.Cols ++ ([(u_of pC ((u_pick pC ((u_table pC p_c).2) 14).2) ([[97], [97, 98, 99, 100], [], [100]] : List Str)).1] : List Str)).length) c229]) ty23 rfl rfl rfl rfl rfl rfl (Box.grown (Box.chg q114 hE198 (Bx (Box.lt q114))) hG235 (fun k hk => by have := hrg236 k hk; omega)) (nb rfl) ?_)))
    intro w240 hB241 hO242
    have hB241 : Box w240 b31 26 [.string (bs ((u_table pC p_c).1.Name)), .slice A228 (((u_table pC p_c).1.Cols ++ ([(u_of pC ((u_pick pC ((u_table pC p_c).2) 14).2) ([[97], [97, 98, 99, 100], [], [100]] : List Str)).1] : List Str)).length) c229, .slice A19 (((u_table pC p_c).1.Idxs).length) c19] := hB241
    have hO242z := hO242.size
    refine SeqR.done (bn (tn (CW.sub (sC 2 (hgp197.old 2 _ rfl rfl) (sC 3 hx200 (Sub.nil _))) (cR (sd rfl (yl_loadN ty26 rfl rfl (hB241.cells (n := 3) rfl) rfl ?_))))))
    have q245 := Box.only (Box.ex (Box.chg hB13 hc25 (Bx (Box.lt hB13))) hE36) hO39 oM
    have q246 := Box.chg q245 hc49 (Bx (Box.lt q245))
    refine SeqR.u rfl rfl (yl_store (vs := [.string (bs ((u_table pC p_c).1.Name)), .slice A228 (((u_table pC p_c).1.Cols ++ ([(u_of pC ((u_pick pC ((u_table pC p_c).2) 14).2) ([[97], [97, 98, 99, 100], [], [100]] : List Str)).1] : List Str)).length) c229, .slice A19 (((u_table pC p_c).1.Idxs).length) c19]) ty26 rfl rfl rfl rfl rfl rfl (Box.only (Box.grown (Box.chg q246 hE198 (Bx (Box.lt q246))) hG235 (fun k hk => by have := hrg236 k hk; omega)) hO242 oM) (nb rfl) ?_)
    intro w250 hB251 hO252
    have hB251 : Box w250 b9 26 [.string (bs ((u_table pC p_c).1.Name)), .slice A228 (((u_table pC p_c).1.Cols ++ ([(u_of pC ((u_pick pC ((u_table pC p_c).2) 14).2) ([[97], [97, 98, 99, 100], [], [100]] : List Str)).1] : List Str)).length) c229, .slice A19 (((u_table pC p_c).1.Idxs).length) c19] := hB251
    have hO252z := hO252.size
    refine dn (CW.ret (rr rfl (.cons ⟨_, rfl, run_loadN ty26 (cs := [.string (bs ((u_table pC p_c).1.Name)), .slice A228 (((u_table pC p_c).1.Cols ++ ([(u_of pC ((u_pick pC ((u_table pC p_c).2) 14).2) ([[97], [97, 98, 99, 100], [], [100]] : List Str)).1] : List Str)).length) c229, .slice A19 (((u_table pC p_c).1.Idxs).length) c19]) rfl (hB251.cells (n := 3) rfl)⟩ .nil) ?_))
    have hM253 : (u_bentTable pC p_c) = (((⟨(u_table pC p_c).1.Name, ((u_table pC p_c).1.Cols ++ ([(u_of pC ((u_pick pC ((u_table pC p_c).2) 14).2) ([[97], [97, 98, 99, 100], [], [100]] : List Str)).1] : List Str)), (u_table pC p_c).1.Idxs⟩ : DTable), (((u_of pC ((u_pick pC ((u_table pC p_c).2) 14).2) ([[97], [97, 98, 99, 100], [], [100]] : List Str)).2).1, ((u_of pC ((u_pick pC ((u_table pC p_c).2) 14).2) ([[97], [97, 98, 99, 100], [], [100]] : List Str)).2).2))) := by first | (simp only [u_bentTable, hb51, hb113, cL]; done) | (simp only [u_bentTable, hb51, hb113, cond_true, cond_false, loopE_done, loopE_ret, pairE]; done) | exact (show (u_bentTable pC p_c) = (((⟨(u_table pC p_c).1.Name, ((u_table pC p_c).1.Cols ++ ([(u_of pC ((u_pick pC ((u_table pC p_c).2) 14).2) ([[97], [97, 98, 99, 100], [], [100]] : List Str)).1] : List Str)), (u_table pC p_c).1.Idxs⟩ : DTable), ((u_of pC ((u_pick pC ((u_table pC p_c).2) 14).2) ([[97], [97, 98, 99, 100], [], [100]] : List Str)).2))) from by simp only [u_bentTable, hb51, hb113, cond_true, cond_false, loopE_done, loopE_ret, pairE])
    have hol264 : ((u_table pC p_c).1.Cols).length ≤ 2147483648 := ho20.2.1.1
    rw [hM253]
    have q274 := Chg.tgrown (Chg.tchg (Chg.tchg (Chg.tonly (Chg.tex (Chg.tchg (Chg.tex (Chg.refl (InR [(b1, b1 + 1)]) w) hE14) hc25 (fun k hk => by simp only [InR, or_false] at hk ⊢; omega)) hE36) hO39 (by simp only [InR, or_false]; omega)) hc49 (fun k hk => by simp only [InR, or_false] at hk ⊢; omega)) hE198 (fun k hk => by simp only [InR, or_false] at hk ⊢; omega)) hG235 (fun k hk => by have := hrg236 k hk; simp only [InR, or_false]; omega)
    exact ⟨A228, c229, A19, c19, lo19, hi19, rfl, (RdS.wideI gS (OwnL.rd gS (OwnL.only gS (OwnL.only gS hO234 hO242 oM) hO252 oM)) oM), (OwnL.only gI (OwnL.only gI (OwnL.grown gI (OwnL.chg gI (OwnL.chg gI (OwnL.only gI (OwnL.ex gI h19 hE36) hO39 oM) hc49 Bk) hE198 Bk) hG235 (fun k hk => by have := hrg236 k hk; omega)) hO242 oM) hO252 oM), ⟨ho20.1, (okL.mk (xs := ((u_table pC p_c).1.Cols ++ ([(u_of pC ((u_pick pC ((u_table pC p_c).2) 14).2) ([[97], [97, 98, 99, 100], [], [100]] : List Str)).1] : List Str))) Bl (okE.append (ho20.2.1).2 ((okL.mk (nb rfl) (okE.cons h206 okE.nil))).2)), ho20.2.2⟩, (by (try dsimp only); first | omega | assumption | (simp only [wI] at *; omega)), (Box.only (Box.only (Box.grown h208 hG235 (fun k hk => by have := hrg236 k hk; omega)) hO242 oM) hO252 oM), oM, (Chg.tonly (Chg.tonly q274 hO242 (by simp only [InR, or_false]; omega)) hO252 (by simp only [InR, or_false]; omega))⟩
  ·have hb113p := dec_f hb113
   refine CW.cond_f rfl hb113 (cR (sd rfl (yl_eql rfl rfl rfl (sA rfl (dn (bcase (decide (((u_pick pC ((u_table pC p_c).2) 14).1) = 2)) (fun hb277 => ?_) (fun hb277 => ?_)))))))
   ·have hb277p := dec_t hb277
    refine CW.cond_t rfl hb277 (CW.region (sd rfl (yl_fieldAddr fd26_1 rfl rfl ?_)))
    have q278 := Box.chg hB38 hc49 (Bx (Box.lt hB38))
    refine sd rfl (yl_load1 ty23 rfl rfl ((q278.cell 1).trans rfl) ?_)
    have q283 := OwnL.rdI gS (OwnL.chg gS (OwnL.only gS (OwnL.ex gS h18 hE36) hO39 oM) hc49 Bk)
    obtain ⟨A284, c285, he288, h287⟩ := RdS.sl (RdS.drop (RdS.take q283 (k := 1) Bo) (k := 0) Bo)
    have hrc289 := (q283).2.1
    refine sd rfl (yl_sliceR (kl := .i64) (l := 0) (h := 1) un23 ty9 rfl rfl (.inl ⟨rfl, rfl⟩) (.inr ⟨_, rfl, rfl⟩) Bo Bo he288 (sd rfl (yl_fieldAddr fd26_1 rfl rfl (SeqR.u rfl rfl (yl_store (vs := [.slice A284 ((((u_table pC p_c).1.Cols).take 1).length) c285]) ty23 rfl rfl rfl rfl rfl rfl q278 (nb rfl) ?_)))))
    intro w290 hB291 hO292
    have hB291 : Box w290 b31 26 [.string (bs ((u_table pC p_c).1.Name)), .slice A284 ((((u_table pC p_c).1.Cols).take 1).length) c285, .slice A19 (((u_table pC p_c).1.Idxs).length) c19] := hB291
    have hO292z := hO292.size
    refine SeqR.done (bn (tn (cR (sd rfl (yl_loadN ty26 rfl rfl (hB291.cells (n := 3) rfl) rfl ?_)))))
    have q295 := Box.only (Box.ex (Box.chg hB13 hc25 (Bx (Box.lt hB13))) hE36) hO39 oM
    refine SeqR.u rfl rfl (yl_store (vs := [.string (bs ((u_table pC p_c).1.Name)), .slice A284 ((((u_table pC p_c).1.Cols).take 1).length) c285, .slice A19 (((u_table pC p_c).1.Idxs).length) c19]) ty26 rfl rfl rfl rfl rfl rfl (Box.only (Box.chg q295 hc49 (Bx (Box.lt q295))) hO292 oM) (nb rfl) ?_)
    intro w298 hB299 hO300
    have hB299 : Box w298 b9 26 [.string (bs ((u_table pC p_c).1.Name)), .slice A284 ((((u_table pC p_c).1.Cols).take 1).length) c285, .slice A19 (((u_table pC p_c).1.Idxs).length) c19] := hB299
    have hO300z := hO300.size
    refine dn (CW.ret (rr rfl (.cons ⟨_, rfl, run_loadN ty26 (cs := [.string (bs ((u_table pC p_c).1.Name)), .slice A284 ((((u_table pC p_c).1.Cols).take 1).length) c285, .slice A19 (((u_table pC p_c).1.Idxs).length) c19]) rfl (hB299.cells (n := 3) rfl)⟩ .nil) ?_))
    have hM301 : (u_bentTable pC p_c) = (((⟨(u_table pC p_c).1.Name, (((u_table pC p_c).1.Cols).take 1), (u_table pC p_c).1.Idxs⟩ : DTable), (((u_pick pC ((u_table pC p_c).2) 14).2).1, ((u_pick pC ((u_table pC p_c).2) 14).2).2))) := by first | (simp only [u_bentTable, hb51, hb113, hb277, cL]; done) | (simp only [u_bentTable, hb51, hb113, hb277, cond_true, cond_false, loopE_done, loopE_ret, pairE]; done) | exact (show (u_bentTable pC p_c) = (((⟨(u_table pC p_c).1.Name, (((u_table pC p_c).1.Cols).take 1), (u_table pC p_c).1.Idxs⟩ : DTable), ((u_pick pC ((u_table pC p_c).2) 14).2))) from by simp only [u_bentTable, hb51, hb113, hb277, cond_true, cond_false, loopE_done, loopE_ret, pairE])
    rw [hM301]
    exact ⟨A284, c285, A19, c19, lo19, hi19, rfl, (RdS.wideI gS (RdS.only gS (RdS.only gS h287 hO292 (by simp only [Iv]; omega)) hO300 (by simp only [Iv]; omega)) oM), (OwnL.only gI (OwnL.only gI (OwnL.chg gI (OwnL.only gI (OwnL.ex gI h19 hE36) hO39 oM) hc49 Bk) hO292 oM) hO300 oM), ⟨ho20.1, (okL.take ho20.2.1 _), ho20.2.2⟩, (by (try dsimp only); first | omega | assumption | (simp only [wI] at *; omega)), (Box.only (Box.only hB50 hO292 oM) hO300 oM), oM, (Chg.tonly (Chg.tonly (Chg.tchg (Chg.tonly (Chg.tex (Chg.tchg (Chg.tex (Chg.refl (InR [(b1, b1 + 1)]) w) hE14) hc25 (fun k hk => by simp only [InR, or_false] at hk ⊢; omega)) hE36) hO39 (by simp only [InR, or_false]; omega)) hc49 (fun k hk => by simp only [InR, or_false] at hk ⊢; omega)) hO292 (by simp only [InR, or_false]; omega)) hO300 (by simp only [InR, or_false]; omega))⟩
   ·have hb277p := dec_f hb277
    refine CW.cond_f rfl hb277 (cR (sd rfl (yl_eql rfl rfl rfl (sA rfl (dn (bcase (decide (((u_pick pC ((u_table pC p_c).2) 14).1) = 3)) (fun hb318 => ?_) (fun hb318 => ?_)))))))
    ·have hb318p := dec_t hb318
     refine CW.cond_t rfl hb318 ?_
     have q319 := Box.chg hB38 hc49 (Bx (Box.lt hB38))
     have q323 := RdS.chg gU q44 hc49 Bi
     have hrf339 := of_len 2 pC ((u_pick pC ((u_table pC p_c).2) 14).2) ([[97], [122], [122, 122]] : List Str) (by decide)
     refine CW.drawsG 12 (fun G b => (G.dn 4 = true ∧ InR [(b1, b1 + 1)] b) ∨ (G.dn 6 = true ∧ InR [(b1, b1 + 1)] b) ∨ (G.dn 8 = true ∧ InR [(b1, b1 + 1)] b)) (fun i G b => (i = 4 ∧ b1 ≤ b ∧ b < b1 + 1) ∨ (i = 6 ∧ b1 ≤ b ∧ b < b1 + 1) ∨ (i = 8 ∧ b1 ≤ b ∧ b < b1 + 1)) (vgetG [DetG (.pointer (some ⟨b31, 0 + 2, none⟩)), DetG (.slice A19 (((u_table pC p_c).1.Idxs).length) c19), DetG (.pointer (some ⟨b1, 0, none⟩)), fun G v wq => ∃ A320, v = .slice A320 3 3 ∧ OwnL wq (G.fl 3) (G.fh 3) 9 1 (RF e_Str) A320 3 3 ([[97], [122], [122, 122]] : List Str), fun G v wq => v = .string (bs ((u_of pC ((u_pick pC ((u_table pC p_c).2) 14).2) ([[97], [122], [122, 122]] : List Str)).1)) ∧ okS ((u_of pC ((u_pick pC ((u_table pC p_c).2) 14).2) ([[97], [122], [122, 122]] : List Str)).1) ∧ (((u_pick pC ((u_table pC p_c).2) 14).2).1 ≤ ((u_of pC ((u_pick pC ((u_table pC p_c).2) 14).2) ([[97], [122], [122, 122]] : List Str)).2).1 ∧ ((u_of pC ((u_pick pC ((u_table pC p_c).2) 14).2) ([[97], [122], [122, 122]] : List Str)).2).1 ≤ ((u_pick pC ((u_table pC p_c).2) 14).2).1 + 2) ∧ (G.dn 6 = false → Box wq b1 78 [.slice A3 pC.length c3, .int .i64 (((u_of pC ((u_pick pC ((u_table pC p_c).2) 14).2) ([[97], [122], [122, 122]] : List Str)).2).1), .int .u64 (((u_of pC ((u_pick pC ((u_table pC p_c).2) 14).2) ([[97], [122], [122, 122]] : List Str)).2).2)]), DetG (.pointer (some ⟨b1, 0, none⟩)), fun G v wq => v = .int .i64 ((u_pick pC ((u_of pC ((u_pick pC ((u_table pC p_c).2) 14).2) ([[97], [122], [122, 122]] : List Str)).2) 5).1) ∧ (0 ≤ (u_pick pC ((u_of pC ((u_pick pC ((u_table pC p_c).2) 14).2) ([[97], [122], [122, 122]] : List Str)).2) 5).1 ∧ (u_pick pC ((u_of pC ((u_pick pC ((u_table pC p_c).2) 14).2) ([[97], [122], [122, 122]] : List Str)).2) 5).1 ≤ 65535 ∧ ((u_pick pC ((u_of pC ((u_pick pC ((u_table pC p_c).2) 14).2) ([[97], [122], [122, 122]] : List Str)).2) 5).1 < 5 ∨ ((5 : Int) ≤ 0 ∧ (u_pick pC ((u_of pC ((u_pick pC ((u_table pC p_c).2) 14).2) ([[97], [122], [122, 122]] : List Str)).2) 5).1 = 0))) ∧ (((u_of pC ((u_pick pC ((u_table pC p_c).2) 14).2) ([[97], [122], [122, 122]] : List Str)).2).1 ≤ ((u_pick pC ((u_of pC ((u_pick pC ((u_table pC p_c).2) 14).2) ([[97], [122], [122, 122]] : List Str)).2) 5).2).1 ∧ ((u_pick pC ((u_of pC ((u_pick pC ((u_table pC p_c).2) 14).2) ([[97], [122], [122, 122]] : List Str)).2) 5).2).1 ≤ ((u_of pC ((u_pick pC ((u_table pC p_c).2) 14).2) ([[97], [122], [122, 122]] : List Str)).2).1 + 2) ∧ (G.dn 8 = false → Box wq b1 78 [.slice A3 pC.length c3, .int .i64 (((u_pick pC ((u_of pC ((u_pick pC ((u_table pC p_c).2) 14).2) ([[97], [122], [122, 122]] : List Str)).2) 5).2).1), .int .u64 (((u_pick pC ((u_of pC ((u_pick pC ((u_table pC p_c).2) 14).2) ([[97], [122], [122, 122]] : List Str)).2) 5).2).2)]), DetG (.pointer (some ⟨b1, 0, none⟩)), fun G v wq => v = .int .i64 ((u_pick pC ((u_pick pC ((u_of pC ((u_pick pC ((u_table pC p_c).2) 14).2) ([[97], [122], [122, 122]] : List Str)).2) 5).2) 5).1) ∧ (0 ≤ (u_pick pC ((u_pick pC ((u_of pC ((u_pick pC ((u_table pC p_c).2) 14).2) ([[97], [122], [122, 122]] : List Str)).2) 5).2) 5).1 ∧ (u_pick pC ((u_pick pC ((u_of pC ((u_pick pC ((u_table pC p_c).2) 14).2) ([[97], [122], [122, 122]] : List Str)).2) 5).2) 5).1 ≤ 65535 ∧ ((u_pick pC ((u_pick pC ((u_of pC ((u_pick pC ((u_table pC p_c).2) 14).2) ([[97], [122], [122, 122]] : List Str)).2) 5).2) 5).1 < 5 ∨ ((5 : Int) ≤ 0 ∧ (u_pick pC ((u_pick pC ((u_of pC ((u_pick pC ((u_table pC p_c).2) 14).2) ([[97], [122], [122, 122]] : List Str)).2) 5).2) 5).1 = 0))) ∧ (((u_pick pC ((u_of pC ((u_pick pC ((u_table pC p_c).2) 14).2) ([[97], [122], [122, 122]] : List Str)).2) 5).2).1 ≤ ((u_pick pC ((u_pick pC ((u_of pC ((u_pick pC ((u_table pC p_c).2) 14).2) ([[97], [122], [122, 122]] : List Str)).2) 5).2) 5).2).1 ∧ ((u_pick pC ((u_pick pC ((u_of pC ((u_pick pC ((u_table pC p_c).2) 14).2) ([[97], [122], [122, 122]] : List Str)).2) 5).2) 5).2).1 ≤ ((u_pick pC ((u_of pC ((u_pick pC ((u_table pC p_c).2) 14).2) ([[97], [122], [122, 122]] : List Str)).2) 5).2).1 + 2) ∧ Box wq b1 78 [.slice A3 pC.length c3, .int .i64 (((u_pick pC ((u_pick pC ((u_of pC ((u_pick pC ((u_table pC p_c).2) 14).2) ([[97], [122], [122, 122]] : List Str)).2) 5).2) 5).2).1), .int .u64 (((u_pick pC ((u_pick pC ((u_of pC ((u_pick pC ((u_table pC p_c).2) 14).2) ([[97], [122], [122, 122]] : List Str)).2) 5).2) 5).2).2)], DetG (.int .i64 (IntKind.wrap .i64 (((u_pick pC ((u_pick pC ((u_of pC ((u_pick pC ((u_table pC p_c).2) 14).2) ([[97], [122], [122, 122]] : List Str)).2) 5).2) 5).1) - 1))), DetG (.agg #[.string (bs ((u_of pC ((u_pick pC ((u_table pC p_c).2) 14).2) ([[97], [122], [122, 122]] : List Str)).1)), .int .i64 ((u_pick pC ((u_of pC ((u_pick pC ((u_table pC p_c).2) 14).2) ([[97], [122], [122, 122]] : List Str)).2) 5).1), .int .i64 (IntKind.wrap .i64 (((u_pick pC ((u_pick pC ((u_of pC ((u_pick pC ((u_table pC p_c).2) 14).2) ([[97], [122], [122, 122]] : List Str)).2) 5).2) 5).1) - 1))]), fun G v wq => ∃ A336, v = .slice A336 1 1 ∧ OwnL wq (G.fl 11) (G.fh 11) 35 3 (RF e_Idx) A336 1 1 ([(⟨(u_of pC ((u_pick pC ((u_table pC p_c).2) 14).2) ([[97], [122], [122, 122]] : List Str)).1, (u_pick pC ((u_of pC ((u_pick pC ((u_table pC p_c).2) 14).2) ([[97], [122], [122, 122]] : List Str)).2) 5).1, IntKind.wrap .i64 (((u_pick pC ((u_pick pC ((u_of pC ((u_pick pC ((u_table pC p_c).2) 14).2) ([[97], [122], [122, 122]] : List Str)).2) 5).2) 5).1) - 1)⟩ : DIdx)] : List DIdx)]) Tryz.follows rfl rfl rfl rfl rfl rfl (fun _ _ _ _ _ h => (fun h => h.imp (fun h => ⟨Gh.udn h.1, h.2⟩) (fun h => h.imp (fun h => ⟨Gh.udn h.1, h.2⟩) (fun h => ⟨Gh.udn h.1, h.2⟩))) h) (fun i G w lo hi b K hn hh hp => by exact (hp.elim (fun ⟨e, q1, q2⟩ => by subst e; exact .inl (.inl ⟨Gh.sdn, .inl ⟨q1, q2⟩⟩)) (fun hp => (hp.elim (fun ⟨e, q1, q2⟩ => by subst e; exact .inl (.inr (.inl ⟨Gh.sdn, .inl ⟨q1, q2⟩⟩))) (fun hp => (match hp with | ⟨e, q1, q2⟩ => by subst e; exact .inl (.inr (.inr (⟨Gh.sdn, .inl ⟨q1, q2⟩⟩))))))))) (vgetG_kept ⟨(KeptG.det _), (KeptG.det _), (KeptG.det _), (by rintro i G v w w' K hn hh hj ⟨A320, hv, h0⟩ e; have d3 : G.dn 3 = true := hj; have u3 := Gh.ufl (lo := w.heap.size) (hi := w'.heap.size) d3 hn; have t3 := Gh.ufh (lo := w.heap.size) (hi := w'.heap.size) d3 hn; exact ⟨A320, hv, (by simp only [u3, t3]; exact OwnL.chg gS h0 e (fun b hb hp => by exact (hp.elim (fun ⟨e, q1, q2⟩ => by subst e; have := K.rng 3 d3; skip; omega) (fun hp => (hp.elim (fun ⟨e, q1, q2⟩ => by subst e; have := K.rng 3 d3; skip; omega) (fun hp => (match hp with | ⟨e, q1, q2⟩ => by subst e; have := K.rng 3 d3; skip; omega)))))))⟩), (by rintro i G v w w' K hn hh hj ⟨hv, h0, h1, h2⟩ e; exact ⟨hv, h0, h1, (by intro hd; exact Box.chg (h2 (Gh.off hd).2) e (fun hp => by exact (hp.elim (fun ⟨e, q1, q2⟩ => by subst e; rw [hj] at hn; cases hn) (fun hp => (hp.elim (fun ⟨e, q1, q2⟩ => by subst e; exact absurd rfl (Gh.off hd).1) (fun hp => (match hp with | ⟨e, q1, q2⟩ => by subst e; exact absurd ((Gh.off hd).2.symm.trans (hh 6 rfl)) Bool.false_ne_true)))))))⟩), (KeptG.det _), (by rintro i G v w w' K hn hh hj ⟨hv, h0, h1, h2⟩ e; exact ⟨hv, h0, h1, (by intro hd; exact Box.chg (h2 (Gh.off hd).2) e (fun hp => by exact (hp.elim (fun ⟨e, q1, q2⟩ => by subst e; rw [K.cl 6 4 hj rfl] at hn; cases hn) (fun hp => (hp.elim (fun ⟨e, q1, q2⟩ => by subst e; rw [hj] at hn; cases hn) (fun hp => (match hp with | ⟨e, q1, q2⟩ => by subst e; exact absurd rfl (Gh.off hd).1)))))))⟩), (KeptG.det _), (by rintro i G v w w' K hn hh hj ⟨hv, h0, h1, h2⟩ e; exact ⟨hv, h0, h1, (by exact Box.chg h2 e (fun hp => by exact (hp.elim (fun ⟨e, q1, q2⟩ => by subst e; rw [K.cl 8 4 hj rfl] at hn; cases hn) (fun hp => (hp.elim (fun ⟨e, q1, q2⟩ => by subst e; rw [K.cl 8 6 hj rfl] at hn; cases hn) (fun hp => (match hp with | ⟨e, q1, q2⟩ => by subst e; rw [hj] at hn; cases hn)))))))⟩), (KeptG.det _), (KeptG.det _), (by rintro i G v w w' K hn hh hj ⟨A336, hv, h0⟩ e; have d11 : G.dn 11 = true := hj; have u11 := Gh.ufl (lo := w.heap.size) (hi := w'.heap.size) d11 hn; have t11 := Gh.ufh (lo := w.heap.size) (hi := w'.heap.size) d11 hn; exact ⟨A336, hv, (by simp only [u11, t11]; exact OwnL.chg gI h0 e (fun b hb hp => by exact (hp.elim (fun ⟨e, q1, q2⟩ => by subst e; rw [K.cl 11 4 hj rfl] at hn; cases hn) (fun hp => (hp.elim (fun ⟨e, q1, q2⟩ => by subst e; rw [K.cl 11 6 hj rfl] at hn; cases hn) (fun hp => (match hp with | ⟨e, q1, q2⟩ => by subst e; rw [K.cl 11 8 hj rfl] at hn; cases hn)))))))⟩), trivial⟩) ⟨?_, ?_, ?_, ?_, ?_, ?_, ?_, ?_, ?_, ?_, ?_, ?_, trivial⟩ ?_
     ·intro L341 w342 G340 hgk343
      have hE344 : Chg (fun b => InR [(b1, b1 + 1)] b ∨ w45.heap.size ≤ b) w45 w342 := hgk343.st.ex.imp (fun b _ h => h.imp (fun h => h.elim (fun h => h.2) (fun h => h.elim (fun h => h.2) (fun h => h.2))) (fun h => h))
      have hE344z := Chg.size hE344
      exact OpR.op' rfl (Yl.sameG (yl_fieldAddr fd26_2 rfl (hgk343.old 3 _ rfl rfl) kI))
     ·intro L347 w348 G346 hgk349
      have hE350 : Chg (fun b => InR [(b1, b1 + 1)] b ∨ w45.heap.size ≤ b) w45 w348 := hgk349.st.ex.imp (fun b _ h => h.imp (fun h => h.elim (fun h => h.2) (fun h => h.elim (fun h => h.2) (fun h => h.2))) (fun h => h))
      have hE350z := Chg.size hE350
      obtain ⟨_, hx351, rfl⟩ := hgk349.val 0 32 rfl rfl
      exact OpR.op' rfl (Yl.sameG (yl_load1 ty24 rfl hx351 (((Box.chg q319 hE350 (Bx (Box.lt q319))).cell 2).trans rfl) kI))
     ·intro L354 w355 G353 hgk356
      have hE357 := hgk356.st.ex.ex (fun b h => h.elim (fun h => h.elim (fun h => hgk356.no rfl h) (fun h => h.elim (fun h => hgk356.no rfl h) (fun h => hgk356.no rfl h))) (fun h => h))
      have hE357z := Ex.size hE357
      exact OpR.op' rfl (Yl.sameG (yM rfl (hgk356.old 0 _ rfl rfl) kI))
     ·intro L360 w361 G359 hgk362
      have hE363 := hgk362.st.ex.ex (fun b h => h.elim (fun h => h.elim (fun h => hgk362.no rfl h) (fun h => h.elim (fun h => hgk362.no rfl h) (fun h => hgk362.no rfl h))) (fun h => h))
      have hE363z := Ex.size hE363
      refine OpR.op' rfl (yl_buildSlice (cs := [.string (bs (([97] : Str))), .string (bs (([122] : Str))), .string (bs (([122, 122] : Str)))]) un23 ty9 (by decide) rfl (oc rfl (oc rfl (oc rfl oz))) (by kernel_rfl) ?_)
      intro b364 w365 hs366 hz367 hB368 hE369
      have hO370 : OwnL w365 b364 (b364 + 1) 9 1 (RF e_Str) (some ⟨b364, 0, none⟩) 3 3 ([[97], [122], [122, 122]] : List Str) := OwnL.of_box (S := fun _ => False) hB368 (Nat.le_refl _) (Nat.lt_succ_self _) (EncL.cons (c := [.string (bs (([97] : Str)))]) rfl rfl (EncL.cons (c := [.string (bs (([122] : Str)))]) rfl rfl (EncL.cons (c := [.string (bs (([122, 122] : Str)))]) rfl rfl EncL.nil))) (nb rfl) (fun h => h) (fun _ h => False.elim h)
      exact ⟨Chg.of_ex hE369, (some ⟨b364, 0, none⟩), rfl, OwnL.more (lo' := w361.heap.size) (hi' := w365.heap.size) hO370 oM oM⟩
     ·intro L372 w373 G371 hgk374
      have hE375 := hgk374.st.ex.ex (fun b h => h.elim (fun h => h.elim (fun h => hgk374.nw h) (fun h => h.elim (fun h => hgk374.no rfl h) (fun h => hgk374.no rfl h))) (fun h => h))
      have hE375z := Ex.size hE375
      obtain ⟨_, hx376, rfl⟩ := hgk374.val 2 34 rfl rfl
      obtain ⟨_, hx377, A320_378, rfl, h379⟩ := hgk374.val 3 35 rfl rfl
      have hr380 := hgk374.st.rng 3 (hgk374.has 3 rfl)
      have hle383 := OwnL.len h379
      refine OpR.op' rfl (yC en59 rfl (oc hx376 (oc hx377 oz)) (Cal.mono (Cal.args (by rw [← hle383] <;> rfl) (c_u_of pC ((u_pick pC ((u_table pC p_c).2) 14).2) ([[97], [122], [122, 122]] : List Str) (Box.ex hB50 hE375) (RdS.ex gU q323 hE375) oM oM (RdS.fix (OwnL.rdI gS h379)) oM oM o6 (okL.mk (nb rfl) (okE.cons (okS.lit rfl) (okE.cons (okS.lit rfl) (okE.cons (okS.lit rfl) okE.nil)))) (by first | omega | assumption | (simp only [wI] at *; omega) | (simp only [lN]; omega)) oM (by assumption))) ?_))
      rintro v387 w384 ⟨rfl, ho385, hp386, hB389, hE388⟩
      exact ⟨hE388.imp (fun k _ hk => hk.elim (fun hk => (.inl ⟨rfl, hk.1, hk.2⟩)) False.elim), rfl, ho385, hp386, fun _ => hB389⟩
     ·intro L391 w392 G390 hgk393
      have hE394 : Chg (fun b => InR [(b1, b1 + 1)] b ∨ w45.heap.size ≤ b) w45 w392 := hgk393.st.ex.imp (fun b _ h => h.imp (fun h => h.elim (fun h => h.2) (fun h => h.elim (fun h => hgk393.no rfl h) (fun h => hgk393.no rfl h))) (fun h => h))
      have hE394z := Chg.size hE394
      exact OpR.op' rfl (Yl.sameG (yM rfl (hgk393.old 0 _ rfl rfl) kI))
     ·intro L397 w398 G396 hgk399
      have hE400 : Chg (fun b => InR [(b1, b1 + 1)] b ∨ w45.heap.size ≤ b) w45 w398 := hgk399.st.ex.imp (fun b _ h => h.imp (fun h => h.elim (fun h => h.2) (fun h => h.elim (fun h => hgk399.nw h) (fun h => hgk399.no rfl h))) (fun h => h))
      have hE400z := Chg.size hE400
      obtain ⟨_, hx401, rfl⟩ := hgk399.val 5 37 rfl rfl
      obtain ⟨_, rfl, h402, h403, h404⟩ := hgk399.fact 4 rfl
      have h404 := h404 hgk399.new
      have hr405 := hgk399.st.rng 4 (hgk399.has 4 rfl)
      refine OpR.op' rfl (yC en50 rfl (oc hx401 (oc rfl oz)) (Cal.mono (c_u_pick pC ((u_of pC ((u_pick pC ((u_table pC p_c).2) 14).2) ([[97], [122], [122, 122]] : List Str)).2) 5 h404 (RdS.chg gU q323 hE400 Bi) oM oM o6 oM (by assumption)) ?_))
      rintro v410 w407 ⟨rfl, hp408, hp409, hB412, hE411⟩
      exact ⟨hE411.imp (fun k _ hk => hk.elim (fun hk => (.inr (.inl ⟨rfl, hk.1, hk.2⟩))) False.elim), rfl, hp408, hp409, fun _ => hB412⟩
     ·intro L414 w415 G413 hgk416
      have hE417 : Chg (fun b => InR [(b1, b1 + 1)] b ∨ w45.heap.size ≤ b) w45 w415 := hgk416.st.ex.imp (fun b _ h => h.imp (fun h => h.elim (fun h => h.2) (fun h => h.elim (fun h => h.2) (fun h => hgk416.no rfl h))) (fun h => h))
      have hE417z := Chg.size hE417
      exact OpR.op' rfl (Yl.sameG (yM rfl (hgk416.old 0 _ rfl rfl) kI))
     ·intro L420 w421 G419 hgk422
      have hE423 : Chg (fun b => InR [(b1, b1 + 1)] b ∨ w45.heap.size ≤ b) w45 w421 := hgk422.st.ex.imp (fun b _ h => h.imp (fun h => h.elim (fun h => h.2) (fun h => h.elim (fun h => h.2) (fun h => hgk422.nw h))) (fun h => h))
      have hE423z := Chg.size hE423
      obtain ⟨_, hx424, rfl⟩ := hgk422.val 7 39 rfl rfl
      obtain ⟨_, rfl, h425, h426, h427⟩ := hgk422.fact 6 rfl
      have h427 := h427 hgk422.new
      obtain ⟨_, rfl, h428, h429, -⟩ := hgk422.fact 4 rfl
      have hr430 := hgk422.st.rng 4 (hgk422.has 4 rfl)
      have hr431 := hgk422.st.rng 6 (hgk422.has 6 rfl)
      have hsp432 := hgk422.st.ord 6 4 (hgk422.has 6 rfl) rfl
      refine OpR.op' rfl (yC en50 rfl (oc hx424 (oc rfl oz)) (Cal.mono (c_u_pick pC ((u_pick pC ((u_of pC ((u_pick pC ((u_table pC p_c).2) 14).2) ([[97], [122], [122, 122]] : List Str)).2) 5).2) 5 h427 (RdS.chg gU q323 hE423 Bi) oM oM o6 oM (by assumption)) ?_))
      rintro v437 w434 ⟨rfl, hp435, hp436, hB439, hE438⟩
      exact ⟨hE438.imp (fun k _ hk => hk.elim (fun hk => (.inr (.inr (⟨rfl, hk.1, hk.2⟩)))) False.elim), rfl, hp435, hp436, hB439⟩
     ·intro L441 w442 G440 hgk443
      have hE444 : Chg (fun b => InR [(b1, b1 + 1)] b ∨ w45.heap.size ≤ b) w45 w442 := hgk443.st.ex.imp (fun b _ h => h.imp (fun h => h.elim (fun h => h.2) (fun h => h.elim (fun h => h.2) (fun h => h.2))) (fun h => h))
      have hE444z := Chg.size hE444
      obtain ⟨_, hx445, rfl, h446, h447, h448⟩ := hgk443.val 8 40 rfl rfl
      have hr449 := hgk443.st.rng 8 (hgk443.has 8 rfl)
      exact OpR.op' rfl (Yl.sameG (yl_sub rfl hx445 rfl kI))
     ·intro L451 w452 G450 hgk453
      have hE454 : Chg (fun b => InR [(b1, b1 + 1)] b ∨ w45.heap.size ≤ b) w45 w452 := hgk453.st.ex.imp (fun b _ h => h.imp (fun h => h.elim (fun h => h.2) (fun h => h.elim (fun h => h.2) (fun h => h.2))) (fun h => h))
      have hE454z := Chg.size hE454
      obtain ⟨_, hx455, rfl, h456, h457, -⟩ := hgk453.val 4 36 rfl rfl
      obtain ⟨_, hx458, rfl, h459, h460, -⟩ := hgk453.val 6 38 rfl rfl
      obtain ⟨_, hx461, rfl⟩ := hgk453.val 9 41 rfl rfl
      have hr462 := hgk453.st.rng 4 (hgk453.has 4 rfl)
      have hr463 := hgk453.st.rng 6 (hgk453.has 6 rfl)
      have hsp464 := hgk453.st.ord 6 4 (hgk453.has 6 rfl) rfl
      exact OpR.op' rfl (Yl.sameG (yl_build (cs := [.string (bs ((u_of pC ((u_pick pC ((u_table pC p_c).2) 14).2) ([[97], [122], [122, 122]] : List Str)).1)), .int .i64 ((u_pick pC ((u_of pC ((u_pick pC ((u_table pC p_c).2) 14).2) ([[97], [122], [122, 122]] : List Str)).2) 5).1), .int .i64 (IntKind.wrap .i64 (((u_pick pC ((u_pick pC ((u_of pC ((u_pick pC ((u_table pC p_c).2) 14).2) ([[97], [122], [122, 122]] : List Str)).2) 5).2) 5).1) - 1))]) rfl (oc hx455 (oc hx458 (oc hx461 oz))) (by kernel_rfl) kI))
     ·intro L466 w467 G465 hgk468
      have hE469 : Chg (fun b => InR [(b1, b1 + 1)] b ∨ w45.heap.size ≤ b) w45 w467 := hgk468.st.ex.imp (fun b _ h => h.imp (fun h => h.elim (fun h => h.2) (fun h => h.elim (fun h => h.2) (fun h => h.2))) (fun h => h))
      have hE469z := Chg.size hE469
      obtain ⟨_, hx470, rfl⟩ := hgk468.val 10 42 rfl rfl
      refine OpR.op' rfl (yl_buildSlice (cs := [.string (bs ((u_of pC ((u_pick pC ((u_table pC p_c).2) 14).2) ([[97], [122], [122, 122]] : List Str)).1)), .int .i64 ((u_pick pC ((u_of pC ((u_pick pC ((u_table pC p_c).2) 14).2) ([[97], [122], [122, 122]] : List Str)).2) 5).1), .int .i64 (IntKind.wrap .i64 (((u_pick pC ((u_pick pC ((u_of pC ((u_pick pC ((u_table pC p_c).2) 14).2) ([[97], [122], [122, 122]] : List Str)).2) 5).2) 5).1) - 1))]) un24 ty35 (by decide) rfl (oc hx470 oz) (by kernel_rfl) ?_)
      intro b471 w472 hs473 hz474 hB475 hE476
      have hO477 : OwnL w472 b471 (b471 + 1) 35 3 (RF e_Idx) (some ⟨b471, 0, none⟩) 1 1 ([(⟨(u_of pC ((u_pick pC ((u_table pC p_c).2) 14).2) ([[97], [122], [122, 122]] : List Str)).1, (u_pick pC ((u_of pC ((u_pick pC ((u_table pC p_c).2) 14).2) ([[97], [122], [122, 122]] : List Str)).2) 5).1, IntKind.wrap .i64 (((u_pick pC ((u_pick pC ((u_of pC ((u_pick pC ((u_table pC p_c).2) 14).2) ([[97], [122], [122, 122]] : List Str)).2) 5).2) 5).1) - 1)⟩ : DIdx)] : List DIdx) := OwnL.of_box (S := fun _ => False) hB475 (Nat.le_refl _) (Nat.lt_succ_self _) (EncL.cons (c := [.string (bs ((u_of pC ((u_pick pC ((u_table pC p_c).2) 14).2) ([[97], [122], [122, 122]] : List Str)).1)), .int .i64 ((u_pick pC ((u_of pC ((u_pick pC ((u_table pC p_c).2) 14).2) ([[97], [122], [122, 122]] : List Str)).2) 5).1), .int .i64 (IntKind.wrap .i64 (((u_pick pC ((u_pick pC ((u_of pC ((u_pick pC ((u_table pC p_c).2) 14).2) ([[97], [122], [122, 122]] : List Str)).2) 5).2) 5).1) - 1))]) rfl rfl EncL.nil) (nb rfl) (fun h => h) (fun _ h => False.elim h)
      exact ⟨Chg.of_ex hE476, (some ⟨b471, 0, none⟩), rfl, OwnL.more (lo' := w467.heap.size) (hi' := w472.heap.size) hO477 oM oM⟩
     ·intro G478 L479 w480 hgp481
      have hE482 : Chg (fun b => InR [(b1, b1 + 1)] b ∨ w45.heap.size ≤ b) w45 w480 := hgp481.st.ex.imp (fun b _ h => h.imp (fun h => h.elim (fun h => h.2) (fun h => h.elim (fun h => h.2) (fun h => h.2))) (fun h => h))
      have hE482z := Chg.size hE482
      have hx484 := hgp481.old 3 _ rfl rfl
      obtain ⟨_, hx485, rfl⟩ := hgp481.val 1 33 rfl rfl
      obtain ⟨_, hx486, A320_487, rfl, h488⟩ := hgp481.val 3 35 rfl rfl
      obtain ⟨_, hx489, rfl, h490, h491, -⟩ := hgp481.val 4 36 rfl rfl
      obtain ⟨_, hx492, rfl, h493, h494, -⟩ := hgp481.val 6 38 rfl rfl
      obtain ⟨_, hx495, rfl, h496, h497, h498⟩ := hgp481.val 8 40 rfl rfl
      obtain ⟨_, hx499, A336_500, rfl, h501⟩ := hgp481.val 11 43 rfl rfl
      have hbz502 := Box.lt h498
      have hr503 := hgp481.st.rng 3 (hgp481.has 3 rfl)
      have hr504 := hgp481.st.rng 4 (hgp481.has 4 rfl)
      have hr505 := hgp481.st.rng 6 (hgp481.has 6 rfl)
      have hr506 := hgp481.st.rng 8 (hgp481.has 8 rfl)
      have hr507 := hgp481.st.rng 11 (hgp481.has 11 rfl)
      have hsp508 := hgp481.st.ord 4 3 (hgp481.has 4 rfl) rfl
      have hsp509 := hgp481.st.ord 6 3 (hgp481.has 6 rfl) rfl
      have hsp510 := hgp481.st.ord 8 3 (hgp481.has 8 rfl) rfl
      have hsp511 := hgp481.st.ord 11 3 (hgp481.has 11 rfl) rfl
      have hsp512 := hgp481.st.ord 6 4 (hgp481.has 6 rfl) rfl
      have hsp513 := hgp481.st.ord 8 4 (hgp481.has 8 rfl) rfl
      have hsp514 := hgp481.st.ord 11 4 (hgp481.has 11 rfl) rfl
      have hsp515 := hgp481.st.ord 8 6 (hgp481.has 8 rfl) rfl
      have hsp516 := hgp481.st.ord 11 6 (hgp481.has 11 rfl) rfl
      have hsp517 := hgp481.st.ord 11 8 (hgp481.has 11 rfl) rfl
      have q522 := OwnL.rd gI h501
      obtain ⟨nw523, he524, hs525⟩ := RdS.src q522
      have hol526 : ((u_table pC p_c).1.Idxs).length ≤ 2147483648 := ho20.2.2.1
      refine sd rfl (yl_appendP (S := fun _ => False) (lo := lo19) (hi := hi19) (xs := (u_table pC p_c).1.Idxs) (ys := ([(⟨(u_of pC ((u_pick pC ((u_table pC p_c).2) 14).2) ([[97], [122], [122, 122]] : List Str)).1, (u_pick pC ((u_of pC ((u_pick pC ((u_table pC p_c).2) 14).2) ([[97], [122], [122, 122]] : List Str)).2) 5).1, IntKind.wrap .i64 (((u_pick pC ((u_pick pC ((u_of pC ((u_pick pC ((u_table pC p_c).2) 14).2) ([[97], [122], [122, 122]] : List Str)).2) 5).2) 5).1) - 1)⟩ : DIdx)] : List DIdx)) un24 ty35 rfl (nb rfl) (fun _ => rfl) rfl hx485 hx499 (OwnL.chg gI (OwnL.chg gI (OwnL.only gI (OwnL.ex gI h19 hE36) hO39 oM) hc49 Bk) hE482 Bk) he524 hs525 (RdS.len q522) Bl Bl oM oM oM ?_)
      intro A527 c528 w529 row530 lp531 hp532 hO533 hG534 hrg535 hdj536
      have hG534z := hG534.size
      refine sd rfl (yl_fieldAddr fd26_2 rfl hx484 (SeqR.u rfl rfl (yl_store (vs := [.slice A527 (((u_table pC p_c).1.Idxs ++ ([(⟨(u_of pC ((u_pick pC ((u_table pC p_c).2) 14).2) ([[97], [122], [122, 122]] : List Str)).1, (u_pick pC ((u_of pC ((u_pick pC ((u_table pC p_c).2) 14).2) ([[97], [122], [122, 122]] : List Str)).2) 5).1, IntKind.wrap .i64 (((u_pick pC ((u_pick pC ((u_of pC ((u_pick pC ((u_table pC p_c).2) 14).2) ([[97], [122], [122, 122]] : List Str)).2) 5).2) 5).1) - 1)⟩ : DIdx)] : List DIdx)).length) c528]) ty24 rfl rfl rfl rfl rfl rfl (Box.grown (Box.chg q319 hE482 (Bx (Box.lt q319))) hG534 (fun k hk => by have := hrg535 k hk; omega)) (nb rfl) ?_)))
      intro w539 hB540 hO541
      have hB540 : Box w539 b31 26 [.string (bs ((u_table pC p_c).1.Name)), .slice A18 (((u_table pC p_c).1.Cols).length) c18, .slice A527 (((u_table pC p_c).1.Idxs ++ ([(⟨(u_of pC ((u_pick pC ((u_table pC p_c).2) 14).2) ([[97], [122], [122, 122]] : List Str)).1, (u_pick pC ((u_of pC ((u_pick pC ((u_table pC p_c).2) 14).2) ([[97], [122], [122, 122]] : List Str)).2) 5).1, IntKind.wrap .i64 (((u_pick pC ((u_pick pC ((u_of pC ((u_pick pC ((u_table pC p_c).2) 14).2) ([[97], [122], [122, 122]] : List Str)).2) 5).2) 5).1) - 1)⟩ : DIdx)] : List DIdx)).length) c528] := hB540
      have hO541z := hO541.size
      refine SeqR.done (bn (tn (CW.sub (sC 2 (hgp481.old 2 _ rfl rfl) (sC 3 hx484 (Sub.nil _))) (cR (sd rfl (yl_loadN ty26 rfl rfl (hB540.cells (n := 3) rfl) rfl ?_))))))
      have q544 := Box.only (Box.ex (Box.chg hB13 hc25 (Bx (Box.lt hB13))) hE36) hO39 oM
      have q545 := Box.chg q544 hc49 (Bx (Box.lt q544))
      refine SeqR.u rfl rfl (yl_store (vs := [.string (bs ((u_table pC p_c).1.Name)), .slice A18 (((u_table pC p_c).1.Cols).length) c18, .slice A527 (((u_table pC p_c).1.Idxs ++ ([(⟨(u_of pC ((u_pick pC ((u_table pC p_c).2) 14).2) ([[97], [122], [122, 122]] : List Str)).1, (u_pick pC ((u_of pC ((u_pick pC ((u_table pC p_c).2) 14).2) ([[97], [122], [122, 122]] : List Str)).2) 5).1, IntKind.wrap .i64 (((u_pick pC ((u_pick pC ((u_of pC ((u_pick pC ((u_table pC p_c).2) 14).2) ([[97], [122], [122, 122]] : List Str)).2) 5).2) 5).1) - 1)⟩ : DIdx)] : List DIdx)).length) c528]) ty26 rfl rfl rfl rfl rfl rfl (Box.only (Box.grown (Box.chg q545 hE482 (Bx (Box.lt q545))) hG534 (fun k hk => by have := hrg535 k hk; omega)) hO541 oM) (nb rfl) ?_)
      intro w549 hB550 hO551
      have hB550 : Box w549 b9 26 [.string (bs ((u_table pC p_c).1.Name)), .slice A18 (((u_table pC p_c).1.Cols).length) c18, .slice A527 (((u_table pC p_c).1.Idxs ++ ([(⟨(u_of pC ((u_pick pC ((u_table pC p_c).2) 14).2) ([[97], [122], [122, 122]] : List Str)).1, (u_pick pC ((u_of pC ((u_pick pC ((u_table pC p_c).2) 14).2) ([[97], [122], [122, 122]] : List Str)).2) 5).1, IntKind.wrap .i64 (((u_pick pC ((u_pick pC ((u_of pC ((u_pick pC ((u_table pC p_c).2) 14).2) ([[97], [122], [122, 122]] : List Str)).2) 5).2) 5).1) - 1)⟩ : DIdx)] : List DIdx)).length) c528] := hB550
      have hO551z := hO551.size
      refine dn (CW.ret (rr rfl (.cons ⟨_, rfl, run_loadN ty26 (cs := [.string (bs ((u_table pC p_c).1.Name)), .slice A18 (((u_table pC p_c).1.Cols).length) c18, .slice A527 (((u_table pC p_c).1.Idxs ++ ([(⟨(u_of pC ((u_pick pC ((u_table pC p_c).2) 14).2) ([[97], [122], [122, 122]] : List Str)).1, (u_pick pC ((u_of pC ((u_pick pC ((u_table pC p_c).2) 14).2) ([[97], [122], [122, 122]] : List Str)).2) 5).1, IntKind.wrap .i64 (((u_pick pC ((u_pick pC ((u_of pC ((u_pick pC ((u_table pC p_c).2) 14).2) ([[97], [122], [122, 122]] : List Str)).2) 5).2) 5).1) - 1)⟩ : DIdx)] : List DIdx)).length) c528]) rfl (hB550.cells (n := 3) rfl)⟩ .nil) ?_))
      have hM552 : (u_bentTable pC p_c) = (((⟨(u_table pC p_c).1.Name, (u_table pC p_c).1.Cols, ((u_table pC p_c).1.Idxs ++ ([(⟨(u_of pC ((u_pick pC ((u_table pC p_c).2) 14).2) ([[97], [122], [122, 122]] : List Str)).1, (u_pick pC ((u_of pC ((u_pick pC ((u_table pC p_c).2) 14).2) ([[97], [122], [122, 122]] : List Str)).2) 5).1, IntKind.wrap .i64 (((u_pick pC ((u_pick pC ((u_of pC ((u_pick pC ((u_table pC p_c).2) 14).2) ([[97], [122], [122, 122]] : List Str)).2) 5).2) 5).1) - 1)⟩ : DIdx)] : List DIdx))⟩ : DTable), (((u_pick pC ((u_pick pC ((u_of pC ((u_pick pC ((u_table pC p_c).2) 14).2) ([[97], [122], [122, 122]] : List Str)).2) 5).2) 5).2).1, ((u_pick pC ((u_pick pC ((u_of pC ((u_pick pC ((u_table pC p_c).2) 14).2) ([[97], [122], [122, 122]] : List Str)).2) 5).2) 5).2).2))) := by first | (simp only [u_bentTable, hb51, hb113, hb277, hb318, cL]; done) | (simp only [u_bentTable, hb51, hb113, hb277, hb318, cond_true, cond_false, loopE_done, loopE_ret, pairE]; done) | exact (show (u_bentTable pC p_c) = (((⟨(u_table pC p_c).1.Name, (u_table pC p_c).1.Cols, ((u_table pC p_c).1.Idxs ++ ([(⟨(u_of pC ((u_pick pC ((u_table pC p_c).2) 14).2) ([[97], [122], [122, 122]] : List Str)).1, (u_pick pC ((u_of pC ((u_pick pC ((u_table pC p_c).2) 14).2) ([[97], [122], [122, 122]] : List Str)).2) 5).1, IntKind.wrap .i64 (((u_pick pC ((u_pick pC ((u_of pC ((u_pick pC ((u_table pC p_c).2) 14).2) ([[97], [122], [122, 122]] : List Str)).2) 5).2) 5).1) - 1)⟩ : DIdx)] : List DIdx))⟩ : DTable), ((u_pick pC ((u_pick pC ((u_of pC ((u_pick pC ((u_table pC p_c).2) 14).2) ([[97], [122], [122, 122]] : List Str)).2) 5).2) 5).2))) from by simp only [u_bentTable, hb51, hb113, hb277, hb318, cond_true, cond_false, loopE_done, loopE_ret, pairE])
      have hol563 : ((u_table pC p_c).1.Idxs).length ≤ 2147483648 := ho20.2.2.1
      rw [hM552]
      have q573 := Chg.tgrown (Chg.tchg (Chg.tchg (Chg.tonly (Chg.tex (Chg.tchg (Chg.tex (Chg.refl (InR [(b1, b1 + 1)]) w) hE14) hc25 (fun k hk => by simp only [InR, or_false] at hk ⊢; omega)) hE36) hO39 (by simp only [InR, or_false]; omega)) hc49 (fun k hk => by simp only [InR, or_false] at hk ⊢; omega)) hE482 (fun k hk => by simp only [InR, or_false] at hk ⊢; omega)) hG534 (fun k hk => by have := hrg535 k hk; simp only [InR, or_false]; omega)
      exact ⟨A18, c18, A527, c528, lp531, hp532, rfl, (RdS.wideI gS (OwnL.rd gS (OwnL.only gS (OwnL.only gS (OwnL.grown gS (OwnL.chg gS (OwnL.chg gS (OwnL.only gS (OwnL.ex gS h18 hE36) hO39 oM) hc49 Bk) hE482 Bk) hG534 (fun k hk => by have := hrg535 k hk; omega)) hO541 oM) hO551 oM)) oM), (OwnL.only gI (OwnL.only gI hO533 hO541 oM) hO551 oM), ⟨ho20.1, ho20.2.1, (okL.mk (xs := ((u_table pC p_c).1.Idxs ++ ([(⟨(u_of pC ((u_pick pC ((u_table pC p_c).2) 14).2) ([[97], [122], [122, 122]] : List Str)).1, (u_pick pC ((u_of pC ((u_pick pC ((u_table pC p_c).2) 14).2) ([[97], [122], [122, 122]] : List Str)).2) 5).1, IntKind.wrap .i64 (((u_pick pC ((u_pick pC ((u_of pC ((u_pick pC ((u_table pC p_c).2) 14).2) ([[97], [122], [122, 122]] : List Str)).2) 5).2) 5).1) - 1)⟩ : DIdx)] : List DIdx))) Bl (okE.append (ho20.2.2).2 ((okL.mk (nb rfl) (okE.cons (show ok_Idx (⟨(u_of pC ((u_pick pC ((u_table pC p_c).2) 14).2) ([[97], [122], [122, 122]] : List Str)).1, (u_pick pC ((u_of pC ((u_pick pC ((u_table pC p_c).2) 14).2) ([[97], [122], [122, 122]] : List Str)).2) 5).1, IntKind.wrap .i64 (((u_pick pC ((u_pick pC ((u_of pC ((u_pick pC ((u_table pC p_c).2) 14).2) ([[97], [122], [122, 122]] : List Str)).2) 5).2) 5).1) - 1)⟩ : DIdx) from h490) okE.nil))).2))⟩, (by (try dsimp only); first | omega | assumption | (simp only [wI] at *; omega)), (Box.only (Box.only (Box.grown h498 hG534 (fun k hk => by have := hrg535 k hk; omega)) hO541 oM) hO551 oM), oM, (Chg.tonly (Chg.tonly q573 hO541 (by simp only [InR, or_false]; omega)) hO551 (by simp only [InR, or_false]; omega))⟩
    ·have hb318p := dec_f hb318
     refine CW.cond_f rfl hb318 (CW.skip (bn (tn (cR (sd rfl (yl_loadN ty26 rfl rfl ((Box.chg hB38 hc49 (Bx (Box.lt hB38))).cells (n := 3) rfl) rfl ?_))))))
     have q579 := Box.only (Box.ex (Box.chg hB13 hc25 (Bx (Box.lt hB13))) hE36) hO39 oM
     refine SeqR.u rfl rfl (yl_store (vs := [.string (bs ((u_table pC p_c).1.Name)), .slice A18 (((u_table pC p_c).1.Cols).length) c18, .slice A19 (((u_table pC p_c).1.Idxs).length) c19]) ty26 rfl rfl rfl rfl rfl rfl (Box.chg q579 hc49 (Bx (Box.lt q579))) (nb rfl) ?_)
     intro w581 hB582 hO583
     have hB582 : Box w581 b9 26 [.string (bs ((u_table pC p_c).1.Name)), .slice A18 (((u_table pC p_c).1.Cols).length) c18, .slice A19 (((u_table pC p_c).1.Idxs).length) c19] := hB582
     have hO583z := hO583.size
     refine dn (CW.ret (rr rfl (.cons ⟨_, rfl, run_loadN ty26 (cs := [.string (bs ((u_table pC p_c).1.Name)), .slice A18 (((u_table pC p_c).1.Cols).length) c18, .slice A19 (((u_table pC p_c).1.Idxs).length) c19]) rfl (hB582.cells (n := 3) rfl)⟩ .nil) ?_))
     have hM584 : (u_bentTable pC p_c) = (((u_table pC p_c).1, (((u_pick pC ((u_table pC p_c).2) 14).2).1, ((u_pick pC ((u_table pC p_c).2) 14).2).2))) := by first | (simp only [u_bentTable, hb51, hb113, hb277, hb318, cL]; done) | (simp only [u_bentTable, hb51, hb113, hb277, hb318, cond_true, cond_false, loopE_done, loopE_ret, pairE]; done) | exact (show (u_bentTable pC p_c) = (((u_table pC p_c).1, ((u_pick pC ((u_table pC p_c).2) 14).2))) from by simp only [u_bentTable, hb51, hb113, hb277, hb318, cond_true, cond_false, loopE_done, loopE_ret, pairE])
     rw [hM584]
     exact ⟨A18, c18, A19, c19, lo19, hi19, rfl, (RdS.wideI gS (OwnL.rd gS (OwnL.only gS (OwnL.chg gS (OwnL.only gS (OwnL.ex gS h18 hE36) hO39 oM) hc49 Bk) hO583 oM)) oM), (OwnL.only gI (OwnL.chg gI (OwnL.only gI (OwnL.ex gI h19 hE36) hO39 oM) hc49 Bk) hO583 oM), ho20, (by (try dsimp only); first | omega | assumption | (simp only [wI] at *; omega)), (Box.only hB50 hO583 oM), oM, (Chg.tonly (Chg.tchg (Chg.tonly (Chg.tex (Chg.tchg (Chg.tex (Chg.refl (InR [(b1, b1 + 1)]) w) hE14) hc25 (fun k hk => by simp only [InR, or_false] at hk ⊢; omega)) hE36) hO39 (by simp only [InR, or_false]; omega)) hc49 (fun k hk => by simp only [InR, or_false] at hk ⊢; omega)) hO583 (by simp only [InR, or_false]; omega))⟩
theorem c_s_DrawSetStage {A1 : Option Addr} {c1 : Nat} {w : World} (p_code : List Int) (h1 : RdS w (Iv 0 w.heap.size) (RF e_U8) 1 A1 p_code.length c1 p_code) (o2 : (okL okT) p_code) (pre0 : codeOk p_code) : Cal Tryz.prog 25 #[.slice A1 p_code.length c1] w fun v w' => ∃ A_1 c_1 A_2 c_2 lo_2 hi_2, v = .tuple #[.agg #[.string (bs ((s_DrawSetStage p_code).1.Name)), .slice A_1 (((s_DrawSetStage p_code).1.Cols).length) c_1, .slice A_2 (((s_DrawSetStage p_code).1.Idxs).length) c_2], .string (bs ((s_DrawSetStage p_code).2.1)), .int .i64 ((s_DrawSetStage p_code).2.2)] ∧ RdS w' (Iv w.heap.size w'.heap.size) (RF e_Str) 1 A_1 ((s_DrawSetStage p_code).1.Cols).length c_1 ((s_DrawSetStage p_code).1.Cols) ∧ OwnL w' lo_2 hi_2 35 3 (RF e_Idx) A_2 (((s_DrawSetStage p_code).1.Idxs).length) c_2 ((s_DrawSetStage p_code).1.Idxs) ∧ ok_Table ((s_DrawSetStage p_code).1) ∧ okS ((s_DrawSetStage p_code).2.1) ∧ (w.heap.size ≤ lo_2 ∧ lo_2 ≤ hi_2 ∧ hi_2 ≤ w'.heap.size) ∧ Ex w w' := by
 have hol3 := o2.1
 refine Cal.of func25 rfl ntmps25 rfl (cR (sd rfl (yB ty26 (cs := [.string (bs (([] : Str))), .slice none 0 0, .slice none 0 0]) rfl rfl ?_)))
 intro b4 w5 hs6 hz7 hB8 hE9
 refine sA rfl (sA rfl (dn (cR (sM rfl (sd rfl (yl_build (cs := [.slice A1 p_code.length c1, .int .i64 (0), .int .u64 (0)]) rfl (oc rfl oz) (by kernel_rfl) (sd rfl (yl_box rfl rfl rfl ?_))))))))
 intro b10 w11 hs12 hz13 hB14 hE15
 refine sA rfl (dn (cR (sM rfl ?_)))
 have q17 := RdS.ex gU (RdS.ex gU h1 hE9) hE15
 refine sd rfl (yC en48 rfl (oc rfl oz) (Cal.mono (c_u_bentTable p_code (0, 0) hB14 q17 oM oM o2 oM (by assumption)) ?_))
 rintro v23 w18 ⟨A19, c19, A20, c20, lo20, hi20, rfl, h19, h20, ho21, hp22, hB25, hrn26, hc24⟩
 have hc24z := Chg.size hc24
 have hB25z := Box.lt hB25
 refine sd rfl (yB ty26 (cs := [.string (bs (([] : Str))), .slice none 0 0, .slice none 0 0]) rfl rfl ?_)
 intro b27 w28 hs29 hz30 hB31 hE32
 refine SeqR.u rfl rfl (yl_store (vs := [.string (bs ((u_bentTable p_code (0, 0)).1.Name)), .slice A19 (((u_bentTable p_code (0, 0)).1.Cols).length) c19, .slice A20 (((u_bentTable p_code (0, 0)).1.Idxs).length) c20]) ty26 rfl rfl rfl rfl rfl rfl hB31 (nb rfl) ?_)
 intro w33 hB34 hO35
 have hB34 : Box w33 b27 26 [.string (bs ((u_bentTable p_code (0, 0)).1.Name)), .slice A19 (((u_bentTable p_code (0, 0)).1.Cols).length) c19, .slice A20 (((u_bentTable p_code (0, 0)).1.Idxs).length) c20] := hB34
 have hO35z := hO35.size
 refine dn (cR (sM rfl (sd rfl (yl_buildSlice (cs := [.string (bs (([105] : Str))), .string (bs (([105] : Str))), .string (bs (([105] : Str))), .string (bs (([106] : Str))), .string (bs (([109] : Str))), .string (bs (([122] : Str)))]) un23 ty9 (by decide) rfl (oc rfl (oc rfl (oc rfl (oc rfl (oc rfl (oc rfl oz)))))) (by kernel_rfl) ?_))))
 intro b36 w37 hs38 hz39 hB40 hE41
 have hO42 : OwnL w37 b36 (b36 + 1) 9 1 (RF e_Str) (some ⟨b36, 0, none⟩) 6 6 ([[105], [105], [105], [106], [109], [122]] : List Str) := OwnL.of_box (S := fun _ => False) hB40 (Nat.le_refl _) (Nat.lt_succ_self _) (EncL.cons (c := [.string (bs (([105] : Str)))]) rfl rfl (EncL.cons (c := [.string (bs (([105] : Str)))]) rfl rfl (EncL.cons (c := [.string (bs (([105] : Str)))]) rfl rfl (EncL.cons (c := [.string (bs (([106] : Str)))]) rfl rfl (EncL.cons (c := [.string (bs (([109] : Str)))]) rfl rfl (EncL.cons (c := [.string (bs (([122] : Str)))]) rfl rfl EncL.nil)))))) (nb rfl) (fun h => h) (fun _ h => False.elim h)
 have q49 := RdS.ex gU (RdS.only gU (RdS.ex gU (RdS.chg gU q17 hc24 Bi) hE32) hO35 (by simp only [Iv]; omega)) hE41
 have hle50 := OwnL.len hO42
 refine sd rfl (yC en59 rfl (oc rfl (oc rfl oz)) (Cal.mono (Cal.args (by rw [← hle50] <;> rfl) (c_u_of p_code ((u_bentTable p_code (0, 0)).2) ([[105], [105], [105], [106], [109], [122]] : List Str) (Box.ex (Box.only (Box.ex hB25 hE32) hO35 oM) hE41) q49 oM oM (RdS.fix (OwnL.rdI gS hO42)) oM oM o2 (okL.mk (nb rfl) (okE.cons (okS.lit rfl) (okE.cons (okS.lit rfl) (okE.cons (okS.lit rfl) (okE.cons (okS.lit rfl) (okE.cons (okS.lit rfl) (okE.cons (okS.lit rfl) okE.nil))))))) (by first | omega | assumption | (simp only [wI] at *; omega) | (simp only [lN]; omega)) oM (by assumption))) ?_))
 rintro v54 w51 ⟨rfl, ho52, hp53, hB56, hc55⟩
 have hc55z := Chg.size hc55
 have hB56z := Box.lt hB56
 have hrf57 := of_len 1 p_code ((u_bentTable p_code (0, 0)).2) ([[105], [105], [105], [106], [109], [122]] : List Str) (by decide)
 refine sA rfl (dn (CW.seq ?_))
 have q58 := Box.ex hB34 hE41
 have q59 := Box.chg q58 hc55 (Bx (Box.lt q58))
 refine CW.drawsG 8 (fun G b => (G.dn 3 = true ∧ InR [(b10, b10 + 1)] b) ∨ (G.dn 5 = true ∧ InR [(b4, b4 + 1)] b)) (fun i G b => (i = 3 ∧ b10 ≤ b ∧ b < b10 + 1) ∨ (i = 5 ∧ b4 ≤ b ∧ b < b4 + 1)) (vgetG [DetG (.agg #[.string (bs ((u_bentTable p_code (0, 0)).1.Name)), .slice A19 (((u_bentTable p_code (0, 0)).1.Cols).length) c19, .slice A20 (((u_bentTable p_code (0, 0)).1.Idxs).length) c20]), DetG (.string (bs ((u_of p_code ((u_bentTable p_code (0, 0)).2) ([[105], [105], [105], [106], [109], [122]] : List Str)).1))), DetG (.pointer (some ⟨b10, 0, none⟩)), fun G v wq => v = .int .i64 ((u_pick p_code ((u_of p_code ((u_bentTable p_code (0, 0)).2) ([[105], [105], [105], [106], [109], [122]] : List Str)).2) 6).1) ∧ (0 ≤ (u_pick p_code ((u_of p_code ((u_bentTable p_code (0, 0)).2) ([[105], [105], [105], [106], [109], [122]] : List Str)).2) 6).1 ∧ (u_pick p_code ((u_of p_code ((u_bentTable p_code (0, 0)).2) ([[105], [105], [105], [106], [109], [122]] : List Str)).2) 6).1 ≤ 65535 ∧ ((u_pick p_code ((u_of p_code ((u_bentTable p_code (0, 0)).2) ([[105], [105], [105], [106], [109], [122]] : List Str)).2) 6).1 < 6 ∨ ((6 : Int) ≤ 0 ∧ (u_pick p_code ((u_of p_code ((u_bentTable p_code (0, 0)).2) ([[105], [105], [105], [106], [109], [122]] : List Str)).2) 6).1 = 0))) ∧ (((u_of p_code ((u_bentTable p_code (0, 0)).2) ([[105], [105], [105], [106], [109], [122]] : List Str)).2).1 ≤ ((u_pick p_code ((u_of p_code ((u_bentTable p_code (0, 0)).2) ([[105], [105], [105], [106], [109], [122]] : List Str)).2) 6).2).1 ∧ ((u_pick p_code ((u_of p_code ((u_bentTable p_code (0, 0)).2) ([[105], [105], [105], [106], [109], [122]] : List Str)).2) 6).2).1 ≤ ((u_of p_code ((u_bentTable p_code (0, 0)).2) ([[105], [105], [105], [106], [109], [122]] : List Str)).2).1 + 2) ∧ Box wq b10 78 [.slice A1 p_code.length c1, .int .i64 (((u_pick p_code ((u_of p_code ((u_bentTable p_code (0, 0)).2) ([[105], [105], [105], [106], [109], [122]] : List Str)).2) 6).2).1), .int .u64 (((u_pick p_code ((u_of p_code ((u_bentTable p_code (0, 0)).2) ([[105], [105], [105], [106], [109], [122]] : List Str)).2) 6).2).2)], DetG (.int .i64 (IntKind.wrap .i64 (((u_pick p_code ((u_of p_code ((u_bentTable p_code (0, 0)).2) ([[105], [105], [105], [106], [109], [122]] : List Str)).2) 6).1) - 1))), fun G v wq => Box wq b4 26 [.string (bs ((u_bentTable p_code (0, 0)).1.Name)), .slice A19 (((u_bentTable p_code (0, 0)).1.Cols).length) c19, .slice A20 (((u_bentTable p_code (0, 0)).1.Idxs).length) c20], DetG (.string (bs ((u_of p_code ((u_bentTable p_code (0, 0)).2) ([[105], [105], [105], [106], [109], [122]] : List Str)).1))), DetG (.int .i64 (IntKind.wrap .i64 (((u_pick p_code ((u_of p_code ((u_bentTable p_code (0, 0)).2) ([[105], [105], [105], [106], [109], [122]] : List Str)).2) 6).1) - 1)))]) Tryz.follows rfl rfl rfl rfl rfl rfl (fun _ _ _ _ _ h => (fun h => h.imp (fun h => ⟨Gh.udn h.1, h.2⟩) (fun h => ⟨Gh.udn h.1, h.2⟩)) h) (fun i G w lo hi b K hn hh hp => by exact (hp.elim (fun ⟨e, q1, q2⟩ => by subst e; exact .inl (.inl ⟨Gh.sdn, .inl ⟨q1, q2⟩⟩)) (fun hp => (match hp with | ⟨e, q1, q2⟩ => by subst e; exact .inl (.inr (⟨Gh.sdn, .inl ⟨q1, q2⟩⟩)))))) (vgetG_kept ⟨(KeptG.det _), (KeptG.det _), (KeptG.det _), (by rintro i G v w w' K hn hh hj ⟨hv, h0, h1, h2⟩ e; exact ⟨hv, h0, h1, (by exact Box.chg h2 e (fun hp => by exact (hp.elim (fun ⟨e, q1, q2⟩ => by subst e; rw [hj] at hn; cases hn) (fun hp => (match hp with | ⟨e, q1, q2⟩ => by subst e; skip; omega)))))⟩), (KeptG.det _), (by rintro i G v w w' K hn hh hj h0 e; exact (by exact Box.chg h0 e (fun hp => by exact (hp.elim (fun ⟨e, q1, q2⟩ => by subst e; rw [K.cl 5 3 hj rfl] at hn; cases hn) (fun hp => (match hp with | ⟨e, q1, q2⟩ => by subst e; rw [hj] at hn; cases hn)))))), (KeptG.det _), (KeptG.det _), trivial⟩) ⟨?_, ?_, ?_, ?_, ?_, ?_, ?_, ?_, trivial⟩ ?_
 ·intro L67 w68 G66 hgk69
  have hE70 : Chg (fun b => InR [(b10, b10 + 1)] b ∨ w51.heap.size ≤ b) w51 w68 := hgk69.st.ex.imp (fun b _ h => h.imp (fun h => h.elim (fun h => h.2) (fun h => hgk69.no rfl h)) (fun h => h))
  have hE70z := Chg.size hE70
  exact OpR.op' rfl (Yl.sameG (yl_loadN ty26 rfl (hgk69.old 6 _ rfl rfl) ((Box.chg q59 hE70 (Bx (Box.lt q59))).cells (n := 3) rfl) rfl kI))
 ·intro L74 w75 G73 hgk76
  have hE77 : Chg (fun b => InR [(b10, b10 + 1), (b4, b4 + 1)] b ∨ w51.heap.size ≤ b) w51 w75 := hgk76.st.ex.imp (fun b _ h => h.imp (fun h => h.elim (fun h => h.2.elim (fun h => .inl h) False.elim) (fun h => h.2.elim (fun h => .inr (.inl h)) False.elim)) (fun h => h))
  have hE77z := Chg.size hE77
  exact OpR.op' rfl (Yl.sameG (yM rfl (hgk76.old 7 _ rfl rfl) kI))
 ·intro L80 w81 G79 hgk82
  have hE83 := hgk82.st.ex.ex (fun b h => h.elim (fun h => h.elim (fun h => hgk82.no rfl h) (fun h => hgk82.no rfl h)) (fun h => h))
  have hE83z := Ex.size hE83
  exact OpR.op' rfl (Yl.sameG (yM rfl (hgk82.old 5 _ rfl rfl) kI))
 ·intro L86 w87 G85 hgk88
  have hE89 := hgk88.st.ex.ex (fun b h => h.elim (fun h => h.elim (fun h => hgk88.nw h) (fun h => hgk88.no rfl h)) (fun h => h))
  have hE89z := Ex.size hE89
  obtain ⟨_, hx90, rfl⟩ := hgk88.val 2 18 rfl rfl
  refine OpR.op' rfl (yC en50 rfl (oc hx90 (oc rfl oz)) (Cal.mono (c_u_pick p_code ((u_of p_code ((u_bentTable p_code (0, 0)).2) ([[105], [105], [105], [106], [109], [122]] : List Str)).2) 6 (Box.ex hB56 hE89) (RdS.ex gU (RdS.chg gU q49 hc55 Bi) hE89) oM oM o2 oM (by assumption)) ?_))
  rintro v96 w93 ⟨rfl, hp94, hp95, hB98, hE97⟩
  exact ⟨hE97.imp (fun k _ hk => hk.elim (fun hk => (.inl ⟨rfl, hk.1, hk.2⟩)) False.elim), rfl, hp94, hp95, hB98⟩
 ·intro L100 w101 G99 hgk102
  have hE103 : Chg (fun b => InR [(b10, b10 + 1), (b4, b4 + 1)] b ∨ w51.heap.size ≤ b) w51 w101 := hgk102.st.ex.imp (fun b _ h => h.imp (fun h => h.elim (fun h => h.2.elim (fun h => .inl h) False.elim) (fun h => h.2.elim (fun h => .inr (.inl h)) False.elim)) (fun h => h))
  have hE103z := Chg.size hE103
  obtain ⟨_, hx104, rfl, h105, h106, h107⟩ := hgk102.val 3 19 rfl rfl
  have hr108 := hgk102.st.rng 3 (hgk102.has 3 rfl)
  exact OpR.op' rfl (Yl.sameG (yl_sub rfl hx104 rfl kI))
 ·intro L110 w111 G109 hgk112
  have hE113 : Chg (fun b => InR [(b10, b10 + 1)] b ∨ w51.heap.size ≤ b) w51 w111 := hgk112.st.ex.imp (fun b _ h => h.imp (fun h => h.elim (fun h => h.2) (fun h => hgk112.nw h)) (fun h => h))
  have hE113z := Chg.size hE113
  obtain ⟨_, hx115, rfl⟩ := hgk112.val 0 16 rfl rfl
  have q116 := Box.ex hB8 hE15
  have q120 := Box.ex (Box.only (Box.ex (Box.chg q116 hc24 (Bx (Box.lt q116))) hE32) hO35 oM) hE41
  have q121 := Box.chg q120 hc55 (Bx (Box.lt q120))
  refine OpR.op' rfl (yl_store (vs := [.string (bs ((u_bentTable p_code (0, 0)).1.Name)), .slice A19 (((u_bentTable p_code (0, 0)).1.Cols).length) c19, .slice A20 (((u_bentTable p_code (0, 0)).1.Idxs).length) c20]) ty26 rfl (hgk112.old 2 _ rfl rfl) hx115 rfl rfl rfl (Box.chg q121 hE113 (Bx (Box.lt q121))) (nb rfl) ?_)
  intro w123 hB124 hO125
  have hO125z := hO125.size
  exact ⟨Chg.of_only hO125 (.inr (⟨rfl, Nat.le_refl _, by omega⟩)), hB124⟩
 ·intro L127 w128 G126 hgk129
  have hE130 : Chg (fun b => InR [(b10, b10 + 1), (b4, b4 + 1)] b ∨ w51.heap.size ≤ b) w51 w128 := hgk129.st.ex.imp (fun b _ h => h.imp (fun h => h.elim (fun h => h.2.elim (fun h => .inl h) False.elim) (fun h => h.2.elim (fun h => .inr (.inl h)) False.elim)) (fun h => h))
  have hE130z := Chg.size hE130
  obtain ⟨_, hx131, rfl⟩ := hgk129.val 1 17 rfl rfl
  exact OpR.op' rfl (Yl.sameG (yA rfl hx131 kI))
 ·intro L133 w134 G132 hgk135
  have hE136 : Chg (fun b => InR [(b10, b10 + 1), (b4, b4 + 1)] b ∨ w51.heap.size ≤ b) w51 w134 := hgk135.st.ex.imp (fun b _ h => h.imp (fun h => h.elim (fun h => h.2.elim (fun h => .inl h) False.elim) (fun h => h.2.elim (fun h => .inr (.inl h)) False.elim)) (fun h => h))
  have hE136z := Chg.size hE136
  obtain ⟨_, hx137, rfl⟩ := hgk135.val 4 20 rfl rfl
  exact OpR.op' rfl (Yl.sameG (yA rfl hx137 kI))
 ·intro G138 L139 w140 hgp141
  have hE142 : Chg (fun b => InR [(b10, b10 + 1), (b4, b4 + 1)] b ∨ w51.heap.size ≤ b) w51 w140 := hgp141.st.ex.imp (fun b _ h => h.imp (fun h => h.elim (fun h => h.2.elim (fun h => .inl h) False.elim) (fun h => h.2.elim (fun h => .inr (.inl h)) False.elim)) (fun h => h))
  have hE142z := Chg.size hE142
  obtain ⟨_, hx144, rfl, h145, h146, h147⟩ := hgp141.val 3 19 rfl rfl
  obtain ⟨_, h148⟩ := hgp141.fact 5 rfl
  obtain ⟨_, hx149, rfl⟩ := hgp141.val 6 3 rfl rfl
  obtain ⟨_, hx150, rfl⟩ := hgp141.val 7 4 rfl rfl
  have hbz151 := Box.lt h147
  have hr152 := hgp141.st.rng 3 (hgp141.has 3 rfl)
  have hr153 := hgp141.st.rng 5 (hgp141.has 5 rfl)
  have hsp154 := hgp141.st.ord 5 3 (hgp141.has 5 rfl) rfl
  refine dn (CW.sub (sC 2 (hgp141.old 2 _ rfl rfl) (sC 3 hx149 (sC 4 hx150 (Sub.nil _)))) (CW.ret (rr rfl (.cons ⟨_, rfl, run_loadN ty26 (cs := [.string (bs ((u_bentTable p_code (0, 0)).1.Name)), .slice A19 (((u_bentTable p_code (0, 0)).1.Cols).length) c19, .slice A20 (((u_bentTable p_code (0, 0)).1.Idxs).length) c20]) rfl (h148.cells (n := 3) rfl)⟩ (.cons rfl (.cons rfl .nil))) ?_)))
  have hM155 : (s_DrawSetStage p_code) = (((u_bentTable p_code (0, 0)).1, (u_of p_code ((u_bentTable p_code (0, 0)).2) ([[105], [105], [105], [106], [109], [122]] : List Str)).1, IntKind.wrap .i64 (((u_pick p_code ((u_of p_code ((u_bentTable p_code (0, 0)).2) ([[105], [105], [105], [106], [109], [122]] : List Str)).2) 6).1) - 1))) := by simp only [s_DrawSetStage, cL]
  rw [hM155]
  exact ⟨A19, c19, A20, c20, lo20, hi20, rfl, (RdS.wideI gS (RdS.chg gS (RdS.chg gS (RdS.ex gS (RdS.only gS (RdS.ex gS h19 hE32) hO35 (by simp only [Iv]; omega)) hE41) hc55 Bi) hE142 Bi) oM), (OwnL.chg gI (OwnL.chg gI (OwnL.ex gI (OwnL.only gI (OwnL.ex gI h20 hE32) hO35 oM) hE41) hc55 Bk) hE142 Bk), ho21, ho52, oM, (Ex.chg (Ex.chg (Ex.trans (Below.only (Ex.trans (Ex.chg (Ex.trans (Ex.trans (Ex.refl w) hE9) hE15) hc24 (fun k hk => by simp only [InR, or_false] at hk; omega)) hE32) hO35 oM) hE41) hc55 (fun k hk => by simp only [InR, or_false] at hk; omega)) hE142 (fun k hk => by simp only [InR, or_false] at hk; omega))⟩
theorem c_s_DrawWayTo {A1 : Option Addr} {c1 : Nat} {w : World} (p_code : List Int) (h1 : RdS w (Iv 0 w.heap.size) (RF e_U8) 1 A1 p_code.length c1 p_code) (o2 : (okL okT) p_code) (pre0 : codeOk p_code) : Cal Tryz.prog 4 #[.slice A1 p_code.length c1] w fun v w' => ∃ A_1 c_1 A_2 c_2 lo_2 hi_2, v = .tuple #[.agg #[.string (bs ((s_DrawWayTo p_code).1.Name)), .slice A_1 (((s_DrawWayTo p_code).1.Cols).length) c_1, .slice A_2 (((s_DrawWayTo p_code).1.Idxs).length) c_2], .string (bs ((s_DrawWayTo p_code).2.1)), .int .i64 ((s_DrawWayTo p_code).2.2)] ∧ RdS w' (Iv w.heap.size w'.heap.size) (RF e_Str) 1 A_1 ((s_DrawWayTo p_code).1.Cols).length c_1 ((s_DrawWayTo p_code).1.Cols) ∧ OwnL w' lo_2 hi_2 35 3 (RF e_Idx) A_2 (((s_DrawWayTo p_code).1.Idxs).length) c_2 ((s_DrawWayTo p_code).1.Idxs) ∧ ok_Table ((s_DrawWayTo p_code).1) ∧ okS ((s_DrawWayTo p_code).2.1) ∧ (w.heap.size ≤ lo_2 ∧ lo_2 ≤ hi_2 ∧ hi_2 ≤ w'.heap.size) ∧ Ex w w' := by
 have hol3 := o2.1
 refine Cal.of func4 rfl ntmps4 rfl (cR (sd rfl (yB ty26 (cs := [.string (bs (([] : Str))), .slice none 0 0, .slice none 0 0]) rfl rfl ?_)))
 intro b4 w5 hs6 hz7 hB8 hE9
 refine sA rfl (sA rfl (dn (cR (sM rfl (sd rfl (yC en25 rfl (oc rfl oz) (Cal.mono (c_s_DrawSetStage p_code (RdS.up (RdS.ex gU h1 hE9) gU) o2 (by assumption)) ?_)))))))
 rintro v16 w11 ⟨A12, c12, A13, c13, lo13, hi13, rfl, h12, h13, ho14, ho15, hrn18, hE17⟩
 have hE17z := Ex.size hE17
 refine sd rfl (yl_extract rfl rfl rfl (sd rfl (yl_extract rfl rfl rfl (sd rfl (yl_extract rfl rfl rfl (SeqR.u rfl rfl (yl_store (vs := [.string (bs ((s_DrawSetStage p_code).1.Name)), .slice A12 (((s_DrawSetStage p_code).1.Cols).length) c12, .slice A13 (((s_DrawSetStage p_code).1.Idxs).length) c13]) ty26 rfl rfl rfl rfl rfl rfl (Box.ex hB8 hE17) (nb rfl) ?_)))))))
 intro w20 hB21 hO22
 have hB21 : Box w20 b4 26 [.string (bs ((s_DrawSetStage p_code).1.Name)), .slice A12 (((s_DrawSetStage p_code).1.Cols).length) c12, .slice A13 (((s_DrawSetStage p_code).1.Idxs).length) c13] := hB21
 have hO22z := hO22.size
 refine sA rfl (sA rfl (dn (CW.ret (rr rfl (.cons ⟨_, rfl, run_loadN ty26 (cs := [.string (bs ((s_DrawSetStage p_code).1.Name)), .slice A12 (((s_DrawSetStage p_code).1.Cols).length) c12, .slice A13 (((s_DrawSetStage p_code).1.Idxs).length) c13]) rfl (hB21.cells (n := 3) rfl)⟩ (.cons rfl (.cons rfl .nil))) ?_))))
 have hM23 : (s_DrawWayTo p_code) = (((s_DrawSetStage p_code).1, (s_DrawSetStage p_code).2.1, (s_DrawSetStage p_code).2.2)) := by simp only [s_DrawWayTo, cL]
 rw [hM23]
 exact ⟨A12, c12, A13, c13, lo13, hi13, rfl, (RdS.wideI gS (RdS.only gS h12 hO22 (by simp only [Iv]; omega)) oM), (OwnL.only gI h13 hO22 oM), ho14, ho15, oM, (Below.only (Ex.trans (Ex.trans (Ex.refl w) hE9) hE17) hO22 oM)⟩
theorem c_i_within {w : World} (p_n : Int) (p_low : Int) (p_high : Int) : Cal Tryz.prog 37 #[.int .i64 (p_n), .int .i64 (p_low), .int .i64 (p_high)] w fun v w' => v = .bool ((i_within p_n p_low p_high)) ∧ Ex w w' := by
 refine Cal.of func37 rfl ntmps37 rfl (cR (sA rfl (dn (cR (sM rfl ?_)))))
 refine sM rfl (sd rfl (yl_geq rfl rfl rfl (sM rfl (bcase (decide (p_low ≤ p_n)) (fun hb1 => ?_) (fun hb1 => ?_)))))
 ·have hb1p := dec_t hb1
  refine sy rfl rfl hb1 (yM rfl rfl (sy rfl rfl hb1 (yM rfl rfl (sy rfl rfl hb1 (yl_leq rfl rfl rfl (sd rfl (yl_pick_t rfl rfl hb1 rfl (sA rfl (dn (CW.ret (rr rfl (.cons rfl .nil) ?_)))))))))))
  have hM2 : (i_within p_n p_low p_high) = (decide (p_n ≤ p_high)) := by simp only [i_within, hb1, cL]
  rw [hM2]
  exact ⟨rfl, (Ex.refl w)⟩
 ·have hb1p := dec_f hb1
  refine sz rfl rfl hb1 (sz rfl rfl hb1 (sz rfl rfl hb1 (sd rfl (yl_pick_f rfl rfl hb1 rfl (sA rfl (dn (CW.ret (rr rfl (.cons rfl .nil) ?_))))))))
  have hM3 : (i_within p_n p_low p_high) = (false) := by simp only [i_within, hb1, cL]
  rw [hM3]
  exact ⟨rfl, (Ex.refl w)⟩
theorem c_i_isStage {w : World} (p_stage : Int) : Cal Tryz.prog 27 #[.int .i64 (p_stage)] w fun v w' => v = .bool ((i_isStage p_stage)) ∧ Ex w w' := by
 refine Cal.of func27 rfl ntmps27 rfl (cR (sA rfl (dn (cR (sM rfl ?_)))))
 refine sd rfl (yC en37 rfl (oc rfl (oc rfl (oc rfl oz))) (Cal.mono (c_i_within p_stage 0 3) ?_))
 rintro v2 w1 ⟨rfl, hE3⟩
 refine sA rfl (dn (CW.ret (rr rfl (.cons rfl .nil) ?_)))
 have hM4 : (i_isStage p_stage) = ((i_within p_stage 0 3)) := by simp only [i_isStage, cL]
 rw [hM4]
 exact ⟨rfl, (Ex.trans (Ex.refl w) hE3)⟩
theorem c_i_areLetters {w : World} (p_s : Str) (p_most : Int) (o1 : okS p_s) : Cal Tryz.prog 36 #[.string (bs (p_s)), .int .i64 (p_most)] w fun v w' => v = .bool ((i_areLetters p_s p_most)) ∧ Ex w w' := by
 have hol2 : p_s.length ≤ 1073741824 := o1
 refine Cal.of func36 rfl ntmps36 rfl (cR (sA rfl (dn (CW.seq (cR ?_)))))
 refine sM rfl (sd rfl (yl_slen un9 (a := p_s) rfl rfl (sM rfl (dn (CW.block (CW.loop (fun m4 L5 w6 => ∃ (k3 : Nat), m4 = p_s.length - k3 ∧ k3 ≤ p_s.length ∧ w.heap.size ≤ w6.heap.size ∧ lkp L5 0 = some (.string (bs (p_s))) ∧ lkp L5 1 = some (.int .i64 (p_most)) ∧ lkp L5 7 = some (.int .i64 ((p_s.length : Int))) ∧ lkp L5 8 = some (.int .i64 ((k3 : Int))) ∧ Ex w w6 ∧ loopM (B_i_areLetters_0 p_s p_most) (p_s.length - k3) k3 () = loopM (B_i_areLetters_0 p_s p_most) (p_s.length - 0) 0 ()) (p_s.length - 0) ?_ ?_))))))
 ·exact ⟨0, rfl, oM, Nat.le_refl _, rfl, rfl, rfl, rfl, (Ex.refl w), rfl⟩
 ·rintro m7 L8 w9 ⟨k3, rfl, hk10, hsz12, hl13, hl14, hl15, hl16, hf17, hI11⟩
  refine CW.sub (Sub.cons hl13 (Sub.cons hl14 (Sub.cons hl15 (Sub.cons hl16 (Sub.nil _))))) ?_
  have hf17z := Ex.size hf17
  have hbg18 : p_s.length ≤ 1073741824 := o1
  rcases Nat.lt_or_ge k3 p_s.length with hlt19 | hlt19
  ·refine cR (sd rfl (yl_lss rfl rfl rfl (dn (CW.seq (CW.cond_t rfl (lt_t hlt19) (CW.skip (tn ?_)))))))
   refine CW.seq (CW.block (cR (sM rfl (sA rfl (dn (CW.seq ?_))))))
   refine CW.region (sM rfl (sM rfl (sd rfl (yl_sindexN un9 (a := p_s) rfl rfl rfl Bo (sd rfl (yl_lss rfl rfl rfl (sM rfl (bcase (decide (((p_s.getD k3 0).toNat : Int) < 97)) (fun hb20 => ?_) (fun hb20 => ?_)))))))))
   ·have hb20p := dec_t hb20
    refine sz rfl rfl hb20 (sz rfl rfl hb20 (sz rfl rfl hb20 (sz rfl rfl hb20 (sd rfl (yl_pick_t rfl rfl hb20 rfl (dn (CW.cond_t rfl rfl (CW.seq ?_))))))))
    refine CW.region (sA rfl (dn (CW.ret (br (tr (tr ?_))))))
    have hB22 : B_i_areLetters_0 p_s p_most k3 () = .ret false := by simp only [B_i_areLetters_0, hb20, cL]
    have hL21 : loopM (B_i_areLetters_0 p_s p_most) (p_s.length - 0) 0 () = .ret false := hI11.symm.trans (loopM.ret hlt19 hB22)
    refine br (tr (rr rfl (.cons rfl .nil) ?_))
    have hM23 : (i_areLetters p_s p_most) = (false) := by simp only [i_areLetters, hb20, hL21, cL]
    rw [hM23]
    exact ⟨rfl, hf17⟩
   ·have hb20p := dec_f hb20
    refine sy rfl rfl hb20 (yM rfl rfl (sy rfl rfl hb20 (yM rfl rfl (sy rfl rfl hb20 (yl_sindexN un9 (a := p_s) rfl rfl rfl Bo (sy rfl rfl hb20 (yl_gtr rfl rfl rfl (sd rfl (yl_pick_f rfl rfl hb20 rfl (dn (bcase (decide (122 < ((p_s.getD k3 0).toNat : Int))) (fun hb24 => ?_) (fun hb24 => ?_))))))))))))
    ·have hb24p := dec_t hb24
     refine CW.cond_t rfl hb24 (cR (sA rfl (dn (CW.ret (br (tr ?_))))))
     refine tr ?_
     have hB26 : B_i_areLetters_0 p_s p_most k3 () = .ret false := by simp only [B_i_areLetters_0, hb20, hb24, cL]
     have hL25 : loopM (B_i_areLetters_0 p_s p_most) (p_s.length - 0) 0 () = .ret false := hI11.symm.trans (loopM.ret hlt19 hB26)
     refine br (tr (rr rfl (.cons rfl .nil) ?_))
     have hM27 : (i_areLetters p_s p_most) = (false) := by simp only [i_areLetters, hb20, hb24, hL25, cL]
     rw [hM27]
     exact ⟨rfl, hf17⟩
    ·have hb24p := dec_f hb24
     refine CW.cond_f rfl hb24 (CW.skip (bn (tn (CW.region (sd rfl (yl_inc rfl rfl rfl oM (sM rfl (dn ?_))))))))
     have hB28 : B_i_areLetters_0 p_s p_most k3 () = .cont () := by simp only [B_i_areLetters_0, hb20, hb24, cL]
     exact ⟨p_s.length - (k3 + 1), oM, k3 + 1, rfl, hlt19, oM, rfl, rfl, rfl, rfl, hf17, (loopM.cont hlt19 hB28).symm.trans hI11⟩
  ·refine cR (sd rfl (yl_lss rfl rfl rfl (dn (CW.seq (CW.cond_f rfl (lt_f hlt19) (CW.exit (tx ?_)))))))
   refine tx ?_
   have hL29 : loopM (B_i_areLetters_0 p_s p_most) (p_s.length - 0) 0 () = .done () := hI11.symm.trans (loopM.stop hlt19)
   refine bx (tn (cR (sM rfl (sd rfl (yl_slen un9 (a := p_s) rfl rfl (sM rfl (sd rfl (yC en37 rfl (oc rfl (oc rfl (oc rfl oz))) (Cal.mono (c_i_within (p_s.length : Int) 1 p_most) ?_)))))))))
   rintro v31 w30 ⟨rfl, hE32⟩
   have hE32z := Ex.size hE32
   refine sA rfl (dn (CW.ret (rr rfl (.cons rfl .nil) ?_)))
   have hM33 : (i_areLetters p_s p_most) = ((i_within (p_s.length : Int) 1 p_most)) := by simp only [i_areLetters, hL29, cL]
   rw [hM33]
   exact ⟨rfl, (Ex.trans hf17 hE32)⟩
theorem c_g_slices_Index_string {A1 : Option Addr} {c1 : Nat} {w : World} (p_s : List Str) (p_v : Str) (h1 : RdS w (Iv 0 w.heap.size) (RF e_Str) 1 A1 p_s.length c1 p_s) (o2 : (okL okS) p_s) (o3 : okS p_v) : Cal Tryz.prog 47 #[.slice A1 p_s.length c1, .string (bs (p_v))] w fun v w' => v = .int .i64 ((g_slices_Index_string p_s p_v)) ∧ Ex w w' := by
 have hol4 := o2.1
 have hol5 : p_v.length ≤ 1073741824 := o3
 refine Cal.of func47 rfl ntmps47 rfl (cR (sA rfl (dn (CW.seq (cR ?_)))))
 refine sM rfl (sd rfl (yL un23 rfl rfl (sM rfl (dn (CW.block (CW.loop (fun m7 L8 w9 => ∃ (k6 : Nat), m7 = p_s.length - k6 ∧ k6 ≤ p_s.length ∧ w.heap.size ≤ w9.heap.size ∧ lkp L8 0 = some (.slice A1 p_s.length c1) ∧ lkp L8 1 = some (.string (bs (p_v))) ∧ lkp L8 7 = some (.int .i64 ((p_s.length : Int))) ∧ lkp L8 8 = some (.int .i64 ((k6 : Int))) ∧ RdS w9 (Iv 0 w.heap.size) (RF e_Str) 1 A1 p_s.length c1 p_s ∧ Ex w w9 ∧ loopM (B_g_slices_Index_string_0 p_s p_v) (p_s.length - k6) k6 () = loopM (B_g_slices_Index_string_0 p_s p_v) (p_s.length - 0) 0 ()) (p_s.length - 0) ?_ ?_))))))
 ·exact ⟨0, rfl, oM, Nat.le_refl _, rfl, rfl, rfl, rfl, h1, (Ex.refl w), rfl⟩
 ·rintro m10 L11 w12 ⟨k6, rfl, hk13, hsz15, hl16, hl17, hl18, hl19, hf20, hf21, hI14⟩
  refine CW.sub (Sub.cons hl16 (Sub.cons hl17 (Sub.cons hl18 (Sub.cons hl19 (Sub.nil _))))) ?_
  have hf21z := Ex.size hf21
  have hbg22 := RdS.big hf20
  rcases Nat.lt_or_ge k6 p_s.length with hlt23 | hlt23
  ·refine cR (sd rfl (yl_lss rfl rfl rfl (dn (CW.seq (CW.cond_t rfl (lt_t hlt23) (CW.skip (tn ?_)))))))
   refine CW.seq (CW.block (cR (sM rfl (sA rfl (dn (CW.seq ?_))))))
   refine CW.region (sM rfl (sM rfl (sM rfl ?_)))
   obtain ⟨eb24, eo24, _, eA24, _, ebl24, _, eR24, eC24⟩ := RdS.aD hf20 d_Str (i := k6)
   obtain rfl := eR24
   have eC24 : Cells w12 eb24 (eo24 + k6 * 1) [.string (bs ((p_s.getD k6 d_Str)))] := eC24
   refine sd rfl (yl_ixN un23 ty9 rfl rfl rfl eA24 (sd rfl (yl_load1 ty9 rfl rfl (eC24 0 _ rfl) (sd rfl (yl_seql (a := p_v) (b := (p_s.getD k6 d_Str)) rfl rfl rfl (dn (bcase (p_v == (p_s.getD k6 d_Str)) (fun hb25 => ?_) (fun hb25 => ?_))))))))
   ·refine CW.cond_t rfl hb25 (cR (sM rfl (sA rfl (dn (CW.ret (br ?_))))))
    refine tr (tr ?_)
    have hB27 : B_g_slices_Index_string_0 p_s p_v k6 () = .ret (k6 : Int) := by simp only [B_g_slices_Index_string_0, hb25, cL]
    have hL26 : loopM (B_g_slices_Index_string_0 p_s p_v) (p_s.length - 0) 0 () = .ret (k6 : Int) := hI14.symm.trans (loopM.ret hlt23 hB27)
    refine br (tr (rr rfl (.cons rfl .nil) ?_))
    have hM28 : (g_slices_Index_string p_s p_v) = ((k6 : Int)) := by simp only [g_slices_Index_string, hb25, hL26, cL]
    rw [hM28]
    exact ⟨rfl, hf21⟩
   ·refine CW.cond_f rfl hb25 (CW.skip (bn (tn (CW.region (sd rfl (yl_inc rfl rfl rfl oM (sM rfl (dn ?_))))))))
    have hB29 : B_g_slices_Index_string_0 p_s p_v k6 () = .cont () := by simp only [B_g_slices_Index_string_0, hb25, cL]
    exact ⟨p_s.length - (k6 + 1), oM, k6 + 1, rfl, hlt23, oM, rfl, rfl, rfl, rfl, hf20, hf21, (loopM.cont hlt23 hB29).symm.trans hI14⟩
  ·refine cR (sd rfl (yl_lss rfl rfl rfl (dn (CW.seq (CW.cond_f rfl (lt_f hlt23) (CW.exit (tx ?_)))))))
   refine tx ?_
   have hL30 : loopM (B_g_slices_Index_string_0 p_s p_v) (p_s.length - 0) 0 () = .done () := hI14.symm.trans (loopM.stop hlt23)
   refine bx (tn (cR (sA rfl (dn (CW.ret (rr rfl (.cons rfl .nil) ?_))))))
   have hM31 : (g_slices_Index_string p_s p_v) = (-1) := by simp only [g_slices_Index_string, hL30, cL]
   rw [hM31]
   exact ⟨rfl, hf21⟩
theorem c_g_slices_Contains_string {A1 : Option Addr} {c1 : Nat} {w : World} (p_s : List Str) (p_v : Str) (h1 : RdS w (Iv 0 w.heap.size) (RF e_Str) 1 A1 p_s.length c1 p_s) (o2 : (okL okS) p_s) (o3 : okS p_v) : Cal Tryz.prog 38 #[.slice A1 p_s.length c1, .string (bs (p_v))] w fun v w' => v = .bool ((g_slices_Contains_string p_s p_v)) ∧ Ex w w' := by
 refine Cal.of func38 rfl ntmps38 rfl (cR (sA rfl (dn (cR (sM rfl ?_)))))
 refine sM rfl (sd rfl (yC en47 rfl (oc rfl (oc rfl oz)) (Cal.mono (c_g_slices_Index_string p_s p_v (RdS.up h1 gS) o2 o3) ?_)))
 rintro v7 w6 ⟨rfl, hE8⟩
 refine sd rfl (yl_geq rfl rfl rfl (sA rfl (dn (CW.ret (rr rfl (.cons rfl .nil) ?_)))))
 have hM9 : (g_slices_Contains_string p_s p_v) = (decide (0 ≤ (g_slices_Index_string p_s p_v))) := by simp only [g_slices_Contains_string, cL]
 rw [hM9]
 exact ⟨rfl, (Ex.trans (Ex.refl w) hE8)⟩
end Go.Proofs.YtgfkmgjpannelaaGreatDoor
