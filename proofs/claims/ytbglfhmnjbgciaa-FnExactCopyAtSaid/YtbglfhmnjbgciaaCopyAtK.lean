/- Copy At: what impl.Cell.at returns, which ranges over slices.Backward. -/
import Derived.RangeFuncNested
import Derived.RangeFuncLeaves
import Derived.Shelf.Abstract
import Derived.Shelf.RegionOpen
import Derived.WalkKit
import Derived.OwnWalkIn
import Derived.TacticsInMore
import Derived.LoopNIn
import Derived.LoopIn
import Derived.Test.YtbglfhmnjbgciaaProg
import Derived.Test.YtbglfhmnjbgciaaCopyAtT
import Derived.Test.YtbglfhmnjbgciaaCopyAtF
set_option linter.unusedVariables false
set_option linter.unusedSimpArgs false
namespace Go.Proofs.Ytbglfhmnjbgciaa
open Go.RowKit Go.X
open Go.Shelf
attribute [local go_sem] Oper.semAt_some
theorem dwn_succ (n k : Nat) : dwn n (k + 1) = dwn n k ++ [n - 1 - k] := by simp [dwn, List.range_succ]
theorem dwn_pre {n k : Nat} (hk : k ≤ n) : dwn n n = dwn n k ++ (dwn n n).drop k := by
  have h : (dwn n n).take k = dwn n k := by simp [dwn, ← List.map_take, List.take_range, Nat.min_eq_left hk]
  rw [← h, List.take_append_drop]
theorem dwn_length (n k : Nat) : (dwn n k).length = k := by simp [dwn]
def vVer (x : DVer) : Value := .agg (e_Ver x).toArray

set_option maxRecDepth 100000 in
set_option maxHeartbeats 2000000 in
theorem back1_in (F : Fence) (n : Nat) (h8 : F.fn 51) (hro : F.round = none) (hn : 1 ≤ n) (l Bs n₀ len cap : Nat) (A : Option Addr) (vs : List DVer) (J Jx : List Nat → World → Prop)
    (hY : ∀ pre (x : Nat) W, J pre W → pre.length < len → YieldAt F (n - 1) Try.prog l #[.int .i64 (x : Int), vVer (vs.getD x d_Ver)] W fun e W' =>
      (e = .returned (.bool true) ∧ J (pre ++ [x]) W' ∧ Below n₀ W W') ∨ (e = .returned (.bool false) ∧ Jx (pre ++ [x]) W'))
    (W : World) (hBs : W.cell? ⟨Bs, 0, none⟩ = some (.slice A len cap)) (hBl : Bs < n₀) (hc : RdS W (Iv 0 n₀) (RF e_Ver) 3 A len cap vs) (hnW : n₀ ≤ W.heap.size) (h0 : J [] W) :
    CallsIn F n Try.prog 51 #[.func (.yield l) #[] #[], .pointer (some ⟨Bs, 0, none⟩)] W fun e W' => (∃ v, e = .returned v) ∧
      ((∃ ys, ys = dwn len len ∧ J ys W') ∨ (∃ pre, (∃ k, k ≤ len ∧ pre = dwn len k) ∧ Jx pre W')) := by
  have hbig := hc.big
  refine callsIn_of_wp Try.func51 rfl h8 ?_ hro
  simp only [Try.ntmps51, List.size_toArray, List.length_cons, List.length_nil, Nat.reduceAdd, Nat.reduceSub, Array.replicate_succ, Array.replicate_zero, List.push_toArray, List.append_toArray, List.nil_append, List.cons_append]
  gi_wp2
  gi_loopw [3] (fun i wr => ∃ m : Nat, m ≤ len ∧ i = .int .i64 ((m : Int) - 1) ∧ J (dwn len (len - m)) wr ∧ Below n₀ W wr)
    (fun i _ => (intOf i + 1).toNat)
  case atStart => exact ⟨len, Nat.le_refl _, by simp, by rw [Nat.sub_self]; exact h0, Below.refl _ _⟩
  case round =>
    obtain ⟨m, hk, rfl, hJs, hnx⟩ := hrel
    have hBs' : wr.cell? ⟨Bs, 0, none⟩ = some (.slice A len cap) := (hnx.cell (p := ⟨Bs, 0, none⟩) hBl).trans hBs
    cases m with
    | succ m =>
      rw [show (((m + 1 : Nat) : Int) - 1) = (m : Int) by omega]
      have hc' : RdS wr (Iv 0 n₀) (RF e_Ver) 3 A len cap vs := hc.keep good_Ver fun b hb _ => hnx.block b hb.2
      obtain ⟨b, off, cs, rfl, _, _, _, hR, hC⟩ := hc'.atD d_Ver (i := m) oM
      obtain rfl : cs = e_Ver (vs.getD m d_Ver) := hR
      have c0 : wr.cell? ⟨b, off + m * 3, none⟩ = some (.int .i64 (vs.getD m d_Ver).Time) := hC 0 _ rfl
      have c1 : wr.cell? ⟨b, off + m * 3 + 1, none⟩ = some (.string (bs (vs.getD m d_Ver).Val)) := hC 1 _ rfl
      have c2 : wr.cell? ⟨b, off + m * 3 + 2, none⟩ = some (.bool (vs.getD m d_Ver).Gone) := hC 2 _ rfl
      clear hC
      obtain ⟨fn, tmps, assign, body, hy, hR⟩ := hY _ m wr hJs (by rw [dwn_length]; omega)
      rw [show vVer (vs.getD m d_Ver) = .agg #[.int .i64 (vs.getD m d_Ver).Time, .string (bs (vs.getD m d_Ver).Val), .bool (vs.getD m d_Ver).Gone] from rfl] at hy
      generalize vs.getD m d_Ver = y at *
      have hd : dwn len (len - m) = dwn len (len - (m + 1)) ++ [m] := by
        rw [show len - m = len - (m + 1) + 1 by omega, dwn_succ, show len - 1 - (len - (m + 1)) = m by omega]
      gi_wp2
      refine hR.mono ?_
      rintro e W3 (⟨rfl, hJ3, hk3⟩ | ⟨rfl, hJx3⟩)
      · gi_wp2
        go_roundw
        case rel => exact ⟨m, oM, by simp, by rw [hd]; exact hJ3, hnx.trans hk3⟩
        case measure => simp [intOf]
      · gi_wp2
        refine bodyPost_ret (results_none rfl _ _ _) rfl ?_
        exact ⟨⟨_, rfl⟩, .inr ⟨_, ⟨len - m, oM, hd.symm⟩, hJx3⟩⟩
    | zero => 
      gi_wp2
      go_end0
      exact ⟨⟨_, rfl⟩, .inl ⟨_, rfl, hJs⟩⟩

set_option maxHeartbeats 1000000 in
theorem back_in (F : Fence) (n : Nat) (h5 : F.fn 44) (hro : F.round = none) (a : Option Addr) (len cap : Nat) (w : World) :
    CallsIn F n Try.prog 44 #[.slice a len cap] w fun e w' => e = .returned (.func (.func 51) #[] #[.pointer (some ⟨w.heap.size, 0, none⟩)]) ∧ w' = w.alloc (.cells #[.slice a len cap] 42) := by
  refine callsIn_of_wp Try.func44 rfl h5 ?_ hro
  simp only [Try.ntmps44, List.size_toArray, List.length_cons, List.length_nil, Nat.reduceAdd, Nat.reduceSub, Array.replicate_succ, Array.replicate_zero, List.push_toArray, List.append_toArray, List.nil_append, List.cons_append]
  gi_wp2
  go_ret
  exact ⟨rfl, rfl⟩

theorem back_stops (F : Fence) (n : Nat) (h8 : F.fn 51) (hro : F.round = none) (hn : 1 ≤ n) (Bs n₀ len cap : Nat) (A : Option Addr) (vs : List DVer) (f : Nat → DVer) (hf : ∀ x, vs.getD x d_Ver = f x) (w : World) (hBs : Bs < n₀) (hn₀ : n₀ ≤ w.heap.size)
    (hc : w.cell? ⟨Bs, 0, none⟩ = some (.slice A len cap)) (hI : RdS w (Iv 0 n₀) (RF e_Ver) 3 A len cap vs) :
    SeqStopsK F n Try.prog 51 #[.pointer (some ⟨Bs, 0, none⟩)] (fun x : Nat => #[Value.int .i64 (x : Int), vVer (f x)]) (Below n₀) (fun ys => ys = dwn len len) (fun pre => ∃ k, k ≤ len ∧ pre = dwn len k) len w := fun l J Jx W hW _ _ hY h0 =>
  back1_in F n h8 hro hn l Bs n₀ len cap A vs J Jx (fun pre x W h1 h2 => by rw [hf]; exact hY pre x W h1 h2) W ((hW.cell (p := ⟨Bs, 0, none⟩) (Nat.lt_of_lt_of_le hBs hn₀)).trans hc) hBs (hI.keep good_Ver fun b _ h => hW.block b h) (Nat.le_trans hn₀ hW.size) h0

set_option maxRecDepth 100000 in
set_option maxHeartbeats 2000000 in
theorem at_in (F : Fence) (n : Nat) (h4 : F.fn 33) (h6 : F.fn 44) (h8 : F.fn 51) (hro : F.round = none) (hn : 3 ≤ n) {A1 : Option Addr} {c1 : Nat} {w : World} (p_c : DCell) (p_time : Int) (h1 : RdS w (Iv 0 w.heap.size) (RF e_Ver) 3 A1 p_c.Vers.length c1 p_c.Vers) (o2 : ok_Cell p_c) :
    CallsIn F n Try.prog 33 #[.agg #[.string (bs (p_c.Key)), .slice A1 p_c.Vers.length c1], .int .i64 (p_time)] w fun e w' => ∃ v, e = .returned v ∧ v = .tuple #[.string (bs (i_Cell_at p_c p_time).1), .bool (i_Cell_at p_c p_time).2] ∧ okS (i_Cell_at p_c p_time).1 ∧ Ex w w' := by
  have h1' : 1 ≤ n := by omega
  refine callsIn_of_wp_marks Try.func33 rfl h4 ?_ hro
  simp only [Try.ntmps33, List.size_toArray, List.length_cons, List.length_nil, Nat.reduceAdd, Nat.reduceSub, Array.replicate_succ, Array.replicate_zero, List.push_toArray, List.append_toArray, List.nil_append, List.cons_append]
  gi_wp2_with (gi_at_call 44; refine (back_in F (n - 1) h6 hro _ _ _ _).mono ?_; rintro e w' ⟨rfl, rfl⟩)
  have bT := (((Boxed.new (w.alloc (.cells #[.string (bs p_c.Key), .slice A1 p_c.Vers.length c1] 44)) 3 (.int .i64 p_time)).alloc (.cells #[.string { data := #[] }] 9)).alloc (.cells #[.bool false] 4)).alloc (.cells #[.slice A1 p_c.Vers.length c1] 42)
  have bV := ((Boxed.new ((w.alloc (.cells #[.string (bs p_c.Key), .slice A1 p_c.Vers.length c1] 44)).alloc (.cells #[.int .i64 p_time] 3)) 9 (.string { data := #[] })).alloc (.cells #[.bool false] 4)).alloc (.cells #[.slice A1 p_c.Vers.length c1] 42)
  have bB := (Boxed.new (((w.alloc (.cells #[.string (bs p_c.Key), .slice A1 p_c.Vers.length c1] 44)).alloc (.cells #[.int .i64 p_time] 3)).alloc (.cells #[.string { data := #[] }] 9)) 4 (.bool false)).alloc (.cells #[.slice A1 p_c.Vers.length c1] 42)
  have bS := Boxed.new ((((w.alloc (.cells #[.string (bs p_c.Key), .slice A1 p_c.Vers.length c1] 44)).alloc (.cells #[.int .i64 p_time] 3)).alloc (.cells #[.string { data := #[] }] 9)).alloc (.cells #[.bool false] 4)) 42 (.slice A1 p_c.Vers.length c1)
  simp only [World.size_alloc] at bT bV bB bS
  have hB0 : Below w.heap.size w (((((w.alloc (.cells #[.string (bs p_c.Key), .slice A1 p_c.Vers.length c1] 44)).alloc (.cells #[.int .i64 p_time] 3)).alloc (.cells #[.string { data := #[] }] 9)).alloc (.cells #[.bool false] 4)).alloc (.cells #[.slice A1 p_c.Vers.length c1] 42)) :=
    (((((Below.refl _ w).alloc (Nat.le_refl _) _).alloc (by simp) _).alloc (by simp; omega) _).alloc (by simp; omega) _).alloc (by simp; omega) _
  have hsz : (((((w.alloc (.cells #[.string (bs p_c.Key), .slice A1 p_c.Vers.length c1] 44)).alloc (.cells #[.int .i64 p_time] 3)).alloc (.cells #[.string { data := #[] }] 9)).alloc (.cells #[.bool false] 4)).alloc (.cells #[.slice A1 p_c.Vers.length c1] 42)).heap.size = w.heap.size + 5 := by simp
  obtain ⟨W0, hW0⟩ : ∃ W0, (((((w.alloc (.cells #[.string (bs p_c.Key), .slice A1 p_c.Vers.length c1] 44)).alloc (.cells #[.int .i64 p_time] 3)).alloc (.cells #[.string { data := #[] }] 9)).alloc (.cells #[.bool false] 4)).alloc (.cells #[.slice A1 p_c.Vers.length c1] 42)) = W0 := ⟨_, rfl⟩
  rw [hW0] at bT bV bB bS hB0 hsz ⊢
  clear hW0
  have hI : RdS W0 (Iv 0 W0.heap.size) (RF e_Ver) 3 A1 p_c.Vers.length c1 p_c.Vers := (RdS.ex good_Ver h1 hB0).wide good_Ver fun b hb _ => ⟨hb.1, by have := hb.2; omega⟩
  obtain ⟨f, hf⟩ : ∃ f : Nat → DVer, ∀ x, p_c.Vers.getD x d_Ver = f x := ⟨fun x => p_c.Vers.getD x d_Ver, fun _ => rfl⟩
  refine wpIn_rangeFunc_ownH hro h1' (gf := 51) (lb := #[.pointer (some ⟨w.heap.size + 1 + 1 + 1 + 1, 0, none⟩)]) rfl h8 (enters_of Try.func51 (by kernel_rfl) rfl)
    (back_stops F (n - 1) h8 hro oM (w.heap.size + 1 + 1 + 1 + 1) W0.heap.size p_c.Vers.length c1 A1 p_c.Vers f hf W0 oM (Nat.le_refl _) bS.cell hI) belowK_t (belowK_b (Nat.le_refl _)) (Below.refl _ _) (fun _ => rfl)
    (fun pre W => (∀ x ∈ pre, ¬ (f x).Time ≤ p_time) ∧ Below W0.heap.size W0 W)
    (fun c pre W => (c = .ret ∧ ∃ ini last, pre = ini ++ [last] ∧ (∀ x ∈ ini, ¬ (f x).Time ≤ p_time) ∧ (f last).Time ≤ p_time) ∧ ((Boxed W (w.heap.size + 1 + 1) 9 (.string (bs (f (pre.getLastD 0)).Val)) ∧ Boxed W (w.heap.size + 1 + 1 + 1) 4 (.bool (!(f (pre.getLastD 0)).Gone))) ∧ Below w.heap.size W0 W))
    (OwnFrom.and (ownFrom_pure _ (fun pre => ∀ x ∈ pre, ¬ (f x).Time ≤ p_time)) (ownFrom_below (Nat.le_refl _) (Nat.le_refl _)))
    (fun c => OwnFrom.and (ownFrom_pure _ (fun pre => c = .ret ∧ ∃ ini last, pre = ini ++ [last] ∧ (∀ x ∈ ini, ¬ (f x).Time ≤ p_time) ∧ (f last).Time ≤ p_time)) (OwnFrom.and (OwnFrom.and (Own.from (boxed_own _ _ _) _) (Own.from (boxed_own _ _ _) _)) (ownFrom_below oM oM)))
    ⟨by simp, Below.refl _ _⟩
    (fun x a' W => ∃ Bx, W0.heap.size ≤ Bx ∧ (W.cell? ⟨Bx, 0, none⟩ = some (.int .i64 (f x).Time) ∧ W.cell? ⟨Bx, 1, none⟩ = some (.string (bs (f x).Val)) ∧ W.cell? ⟨Bx, 2, none⟩ = some (.bool (f x).Gone)) ∧ a' = { tmps := #[.agg #[.string (bs p_c.Key), .slice A1 p_c.Vers.length c1], .int .i64 p_time, .pointer (some ⟨w.heap.size, 0, none⟩), .pointer (some ⟨w.heap.size + 1, 0, none⟩), .pointer (some ⟨w.heap.size + 1 + 1, 0, none⟩), .pointer (some ⟨w.heap.size + 1 + 1 + 1, 0, none⟩), undef, .pointer (some ⟨Bx, 0, none⟩), .pointer (some ⟨w.heap.size, 1, none⟩), .slice A1 p_c.Vers.length c1, .func (.func 51) #[] #[.pointer (some ⟨w.heap.size + 1 + 1 + 1 + 1, 0, none⟩)], .int .i64 (x : Int), vVer (f x), undef, undef, undef, undef, undef, undef, undef, undef, undef], defers := [] })
    (fun x a' _ X Y row hs hg hr => by
      obtain ⟨Bx, g1, ⟨g2, g3, g4⟩, g5⟩ := hs
      exact ⟨Bx, g1, ⟨cell_kept g2 hg (fun r e => (hr r e).2), cell_kept g3 hg (fun r e => (hr r e).2), cell_kept g4 hg (fun r e => (hr r e).2)⟩, g5⟩)
    ?assign ?body ?done ?stop
  case assign =>
    rintro l pre x W K ⟨hp, hB⟩ hK
    unfold vVer e_Ver
    gi_wp2
    have hb := (alloc_facts W (e_Ver (f x)) 68).2.1
    exact hK _ _ ((KeepsOthers.alloc _ _).from _) ((Below.refl _ W).alloc hB.size _) ⟨hp, hB.alloc hB.size _⟩ ⟨W.heap.size, hB.size, ⟨hb.cell 0, hb.cell 1, hb.cell 2⟩, rfl⟩
  case body =>
    rintro l pre x a' W hl ⟨r, hr⟩ ⟨hp, hB⟩ ⟨Bx, hBx, ⟨k0, k1, k2⟩, rfl⟩ hlt
    have h1'' : 1 ≤ n - 1 - 1 := by omega
    have hmx : Try.prog.follows .mixedOrders = true := by kernel_rfl
    have cT := (show Boxed W _ _ _ from (hB.block _ oM).trans bT).cell
    have bV' : Boxed W _ _ _ := (hB.block _ oM).trans bV
    have bB' : Boxed W _ _ _ := (hB.block _ oM).trans bB
    have cV := bV'.cell
    have fV := bV'.frozen
    have cB := bB'.cell
    have fB := bB'.frozen
    have hB' : Below (w.heap.size + 5) W0 W := hsz ▸ hB
    gi_wp2
    · have hx : (f x).Time ≤ p_time := by assumption
      gi_region_o
      all_goals gi_wp2
      all_goals exact ⟨((KeepsOthers.setCell _ _ _).trans ((KeepsOthers.setCell _ _ _).trans (KeepsOthers.drew _))).from _, ⟨rfl, pre, x, rfl, hp, hx⟩,
        ⟨by have h := (bV'.set (.string (bs (f x).Val))).other (B' := w.heap.size + 1 + 1 + 1) oM (.bool !(f x).Gone); simp; exact h, by have h := (bB'.other (B' := w.heap.size + 1 + 1) oM (.string (bs (f x).Val))).set (.bool !(f x).Gone); simp; exact h⟩,
        (((show Below w.heap.size W0 W from hB'.mono oM).setCell (p := ⟨w.heap.size + 1 + 1, 0, none⟩) (show w.heap.size ≤ w.heap.size + 1 + 1 by omega) _).setCell (p := ⟨w.heap.size + 1 + 1 + 1, 0, none⟩) (show w.heap.size ≤ w.heap.size + 1 + 1 + 1 by omega) _).drew⟩
    · have hx : ¬ (f x).Time ≤ p_time := by omega
      exact ⟨KeepsFrom.refl _ _, Below.refl _ _, ⟨fun z hz => (List.mem_append.1 hz).elim (hp z) (fun e => by simp at e; subst e; omega), hB'⟩⟩
  case done =>
    rintro D ys W hD rfl ⟨hne, hB⟩ hK
    have bV' : Boxed W _ _ _ := (hB.block _ oM).trans bV
    have bB' : Boxed W _ _ _ := (hB.block _ oM).trans bB
    have cV := bV'.cell
    have fV := bV'.frozen
    have cB := bB'.cell
    have fB := bB'.frozen
    have hB1 : Below w.heap.size W0 W := hB.mono oM
    gi_wp2
    have hK' := ((KeepsOthers.setCell W ⟨w.heap.size + 1 + 1, 0, none⟩ (.string { data := #[] })).trans (KeepsOthers.setCell _ ⟨w.heap.size + 1 + 1 + 1, 0, none⟩ (.bool false))).same D _ hK rfl
    refine ⟨by simp, .inl ⟨_, _, rfl, run_takeDeferred hK', ?_⟩⟩
    have hc5 := cell_kept ((bV'.set (.string { data := #[] })).other (B' := w.heap.size + 1 + 1 + 1) oM (.bool false)).cell (grownBy_putObj' _ D (.deferred none)) (fun r e => by cases e; exact ⟨_, hK', rfl⟩)
    have hc6 := cell_kept ((bB'.other (B' := w.heap.size + 1 + 1) oM (.string { data := #[] })).set (.bool false)).cell (grownBy_putObj' _ D (.deferred none)) (fun r e => by cases e; exact ⟨_, hK', rfl⟩)
    have hm : i_Cell_at p_c p_time = ([], false) := by
      unfold i_Cell_at
      simp only [hf]
      rw [List.find?_eq_none.2 (fun x hx => by simpa using hne x hx)]
    refine ⟨.tuple #[.string (bs []), .bool false], ?_, ⟨_, rfl, by rw [hm], by rw [hm]; exact ok_d_Str, ?_⟩⟩
    · simp [results, Try.f33, go_sem, hc5, hc6]
      rfl
    · exact hB0.trans (((hB1.setCell (p := ⟨w.heap.size + 1 + 1, 0, none⟩) (show w.heap.size ≤ w.heap.size + 1 + 1 by omega) _).setCell (p := ⟨w.heap.size + 1 + 1 + 1, 0, none⟩) (show w.heap.size ≤ w.heap.size + 1 + 1 + 1 by omega) _).trans (belowK_b (w := w) (Nat.le_refl _) _ D _ _ oM hK' rfl rfl))
  case stop =>
    rintro D c pre W hD ⟨k, hk, rfl⟩ ⟨⟨rfl, ini, last, e1, e2, e3⟩, ⟨hV, hG⟩, hB⟩ hK
    gi_wp2
    refine ⟨by simp, .inl ⟨_, _, rfl, run_takeDeferred hK, ?_⟩⟩
    rw [e1, show (ini ++ [last]).getLastD 0 = last by simp] at hV hG
    have hc5 := cell_kept hV.cell (grownBy_putObj' _ D (.deferred none)) (fun r e => by cases e; exact ⟨_, hK, rfl⟩)
    have hc6 := cell_kept hG.cell (grownBy_putObj' _ D (.deferred none)) (fun r e => by cases e; exact ⟨_, hK, rfl⟩)
    have hm : i_Cell_at p_c p_time = ((f last).Val, !(f last).Gone) := by
      unfold i_Cell_at
      simp only [hf]
      rw [dwn_pre hk, e1, List.append_assoc, List.find?_append, List.find?_eq_none.2 (fun x hx => by simpa using e2 x hx), List.find?_append, List.find?_cons_of_pos (by simpa using e3)]
      rfl
    refine ⟨.tuple #[.string (bs (f last).Val), .bool !(f last).Gone], ?_, ⟨_, rfl, by rw [hm], by rw [hm, ← hf]; exact okL.getD o2.2 ok_d_Ver _, ?_⟩⟩
    · simp [results, Try.f33, go_sem, hc5, hc6]
    · exact hB0.trans (hB.trans (belowK_b (w := w) (Nat.le_refl _) _ D _ _ oM hK rfl rfl))

theorem c_i_Cell_at {A1 : Option Addr} {c1 : Nat} {w : World} (p_c : DCell) (p_time : Int) (h1 : RdS w (Iv 0 w.heap.size) (RF e_Ver) 3 A1 p_c.Vers.length c1 p_c.Vers) (o2 : ok_Cell p_c) : Cal Try.prog 33 #[.agg #[.string (bs (p_c.Key)), .slice A1 p_c.Vers.length c1], .int .i64 (p_time)] w fun v w' => v = .tuple #[.string (bs (i_Cell_at p_c p_time).1), .bool (i_Cell_at p_c p_time).2] ∧ okS (i_Cell_at p_c p_time).1 ∧ Ex w w' :=
  callsIn_wide.1 (at_in Fence.wide 3 trivial trivial trivial rfl (Nat.le_refl _) p_c p_time h1 o2)

end Go.Proofs.Ytbglfhmnjbgciaa
