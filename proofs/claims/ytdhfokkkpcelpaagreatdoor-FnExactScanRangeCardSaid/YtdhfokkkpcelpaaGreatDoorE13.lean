/- Shorter words for what the printed proofs say often. -/
import Derived.Test.YtdhfokkkpcelpaaGreatDoorE12
set_option linter.unusedVariables false
set_option linter.unusedSimpArgs false
namespace Go.X
open Go.RowKit
section
variable {P : Program} {n : Nat} {ops : Array Oper} {K : List (Nat × Value) → World → Prop} {o : Oper} {l : List Oper} {L : List (Nat × Value)} {w : World}
def slotOf (n : Nat) (o : Oper) : Option Nat := match o.guard, o.dst with
  | none, some d => bif Nat.blt d n then some d else none
  | _, _ => none
theorem slotOf.spec {d : Nat} (h : slotOf n o = some d) : o.guard = none ∧ o.dst = some d ∧ Nat.blt d n = true := by
  unfold slotOf at h
  cases hg : o.guard with
  | some x => rw [hg] at h; cases h
  | none =>
    cases hd : o.dst with
    | none => rw [hg, hd] at h; cases h
    | some d' =>
      rw [hg, hd] at h
      simp only at h
      cases hb : Nat.blt d' n with
      | false => rw [hb] at h; cases h
      | true => rw [hb] at h; cases h; exact ⟨rfl, rfl, hb⟩
theorem sd {d : Nat} (hs : slotOf n o = some d) (h : Yl P o L w fun v w' => SeqR P n ops K l ((d, v) :: L) w') : SeqR P n ops K (o :: l) L w :=
  SeqR.d1 (slotOf.spec hs).1 (slotOf.spec hs).2.1 (slotOf.spec hs).2.2 h
def slotG (n : Nat) (ops : Array Oper) (o : Oper) : Option (Nat × Nat × Bool) := match o.guard, o.dst with
  | some (j, b), some d => match (ops[j]?).bind (·.dst) with
    | some e => bif Nat.blt d n then some (d, e, b) else none
    | none => none
  | _, _ => none
theorem slotG.spec {d e : Nat} {b : Bool} (h : slotG n ops o = some (d, e, b)) : ∃ j, o.guard = some (j, b) ∧ o.dst = some d ∧ Nat.blt d n = true ∧ (ops[j]?).bind (·.dst) = some e := by
  unfold slotG at h
  cases hg : o.guard with
  | none => rw [hg] at h; cases h
  | some x =>
    obtain ⟨j, b'⟩ := x
    cases hd : o.dst with
    | none => rw [hg, hd] at h; cases h
    | some d' =>
      rw [hg, hd] at h
      simp only at h
      cases he : (ops[j]?).bind (·.dst) with
      | none => rw [he] at h; cases h
      | some e' =>
        rw [he] at h
        simp only at h
        cases hb : Nat.blt d' n with
        | false => rw [hb] at h; cases h
        | true => rw [hb] at h; cases h; exact ⟨j, rfl, rfl, hb, he⟩
theorem sy {d e : Nat} {b g : Bool} (hs : slotG n ops o = some (d, e, b)) (hv : lkp L e = some (.bool g)) (hb : g = b) (h : Yl P o L w fun v w' => SeqR P n ops K l ((d, v) :: L) w') : SeqR P n ops K (o :: l) L w := by
  obtain ⟨j, h1, h2, h3, h4⟩ := slotG.spec hs
  exact SeqR.y h1 h2 h3 h4 hv hb h
theorem sz {d e : Nat} {b g : Bool} (hs : slotG n ops o = some (d, e, b)) (hv : lkp L e = some (.bool g)) (hb : g = !b) (h : SeqR P n ops K l ((d, undef) :: L) w) : SeqR P n ops K (o :: l) L w := by
  obtain ⟨j, h1, h2, h3, h4⟩ := slotG.spec hs
  exact SeqR.z h1 h2 h3 h4 hv hb h
theorem sq {d e : Nat} {b : Bool} (hs : slotG n ops o = some (d, e, b)) (hv : lkp L e = some undef) (h : SeqR P n ops K l ((d, undef) :: L) w) : SeqR P n ops K (o :: l) L w := by
  obtain ⟨j, h1, h2, h3, h4⟩ := slotG.spec hs
  exact SeqR.q h1 h2 h3 h4 hv h
end
section
variable {P : Program} {n : Nat} {ops : List Oper} {opa : Array Oper} {o : Oper} {L0 L : List (Nat × Value)} {w0 w : World} {Vs : List (Nat → Nat → Value → World → Prop)} {i : Nat}
theorem KnownI.dt {c : Value} (h : KnownI ops L0 w0 (vgetI Vs) i o L w) (j d : Nat) (h1 : (depsOf o).any (Nat.beq j) = true) (h2 : (ops[j]?).bind (·.dst) = some d) (h3 : Vs[j]? = some (DetI c)) : lkp L d = some c := by
  obtain ⟨lo, hi, v, hv, _, _, _, hV⟩ := h.dep j d h1 h2
  unfold vgetI at hV
  rw [h3] at hV
  rw [hv, show v = c from hV]
theorem PastI.nt {m : Nat} {c : Value} {lo hi : Nat → Nat} (h : PastI ops m L0 w0 (vgetI Vs) lo hi L w) (j d : Nat) (h1 : Nat.blt j m = true) (h2 : (ops[j]?).bind (·.dst) = some d) (h3 : Vs[j]? = some (DetI c)) : lkp L d = some c := by
  obtain ⟨v, hv, hV⟩ := h.new j d h1 h2
  unfold vgetI at hV
  rw [h3] at hV
  rw [hv, show v = c from hV]
theorem kI {c : Value} : (∀ lo hi : Nat, DetI c lo hi c w) ∧ w = w := ⟨fun _ _ => rfl, rfl⟩
theorem os {R : Nat → Nat → Value → World → Prop} (hg : o.guard = none) (h : Yl P o L w fun v w' => (∀ lo hi, R lo hi v w') ∧ w' = w) : OpR P opa o L w fun v w' => R w.heap.size w'.heap.size v w' ∧ Ex w w' := OpR.op' hg (Yl.sameI h)
end
/-! ### marks: what a call writes into its results, and finds there again -/
def mkL {α : Type} (mk : α → Int → Int × α) : List α → Int → Int × List α
  | [], k => (k, [])
  | x :: xs, k => ((mkL mk xs (mk x k).1).1, (mk x k).2 :: (mkL mk xs (mk x k).1).2)
theorem mkL_length {α : Type} (mk : α → Int → Int × α) : ∀ (xs : List α) (k : Int), (mkL mk xs k).2.length = xs.length
  | [], _ => rfl
  | x :: xs, k => by simp only [mkL, List.length_cons, mkL_length mk xs]
theorem getD_mid {α : Type} (d x : α) (pre post : List α) : (pre ++ x :: post).getD pre.length d = x := by
  rw [List.getD_eq_getElem?_getD, List.getElem?_append_right (Nat.le_refl _), Nat.sub_self]; rfl
theorem set_mid {α : Type} (x y : α) (pre post : List α) : (pre ++ x :: post).set pre.length y = pre ++ y :: post := by
  rw [List.set_append_right _ _ (Nat.le_refl _), Nat.sub_self]; rfl
theorem mark_loop {α ρ : Type} {d : α} {mk : α → Int → Int × α} {body : Nat → Int × List α → Out ρ (Int × List α)} (hb : ∀ i k xs, i < xs.length → body i (k, xs) = .cont ((mk (xs.getD i d) k).1, xs.set i (mk (xs.getD i d) k).2)) : ∀ (post pre : List α) (k : Int), loopM body post.length pre.length (k, pre ++ post) = .done ((mkL mk post k).1, pre ++ (mkL mk post k).2)
  | [], pre, k => rfl
  | x :: post, pre, k => by
    have h := hb pre.length k (pre ++ x :: post) (by rw [List.length_append, List.length_cons]; omega)
    rw [getD_mid, set_mid] at h
    have ih := mark_loop hb post (pre ++ [(mk x k).2]) (mk x k).1
    rw [List.length_append, List.length_singleton, List.append_assoc, List.append_assoc] at ih
    simp only [List.length_cons, loopM, h, mkL]
    exact ih
theorem markE {α ρ T : Type} {d : α} {mk : α → Int → Int × α} {body : Nat → Int × List α → Out ρ (Int × List α)} {fr : ρ → T} {fd : Int × List α → T} (hb : ∀ i k xs, i < xs.length → body i (k, xs) = .cont ((mk (xs.getD i d) k).1, xs.set i (mk (xs.getD i d) k).2)) (xs : List α) (k : Int) : loopE (loopM body (xs.length - 0) 0 (k, xs)) fr fd = fd (mkL mk xs k) := by
  have h := mark_loop hb xs [] k
  rw [List.nil_append, List.nil_append] at h
  rw [Nat.sub_zero, show (0 : Nat) = ([] : List α).length from rfl, h]; rfl
def cntL {α : Type} (c : α → Nat) : List α → Nat
  | [] => 0
  | x :: xs => c x + cntL c xs
theorem mkL_cnt {α : Type} {mk : α → Int → Int × α} {c : α → Nat} (hm : ∀ x (k : Int), 0 ≤ k → k + (c x : Int) ≤ 4611686018427387904 → (mk x k).1 = k + (c x : Int)) : ∀ (xs : List α) (k : Int), 0 ≤ k → k + (cntL c xs : Int) ≤ 4611686018427387904 → (mkL mk xs k).1 = k + (cntL c xs : Int)
  | [], k, _, _ => by simp [mkL, cntL]
  | x :: xs, k, h0, h1 => by
    unfold cntL at h1 ⊢
    have h2 := hm x k h0 (by omega)
    have h3 := mkL_cnt hm xs (k + c x) (by omega) (by omega)
    unfold mkL
    simp only [h2, h3]; omega
theorem held_loop {α ρ : Type} {mk : α → Int → Int × α} {c : α → Nat} {d : α} (all : List α) {body : Nat → Int → Out ρ Int} (hm : ∀ x (k : Int), 0 ≤ k → k + (c x : Int) ≤ 4611686018427387904 → (mk x k).1 = k + (c x : Int)) (hb : ∀ i (k : Int) x, all.getD i d = (mk x k).2 → 0 ≤ k → k + (c x : Int) ≤ 4611686018427387904 → body i k = .cont (mk x k).1) : ∀ (post : List α) (pre : List α) (k : Int), all = pre ++ (mkL mk post k).2 → 0 ≤ k → k + (cntL c post : Int) ≤ 4611686018427387904 → loopM body post.length pre.length k = .done (mkL mk post k).1
  | [], pre, k, _, _, _ => rfl
  | x :: post, pre, k, ha, h0, h1 => by
    unfold cntL at h1
    have h2 := hm x k h0 (by omega)
    have h3 := hb pre.length k x (by rw [ha]; unfold mkL; exact getD_mid _ _ _ _) h0 (by omega)
    have ih := held_loop all hm hb post (pre ++ [(mk x k).2]) (mk x k).1 (by rw [ha]; show pre ++ ((mk x k).2 :: (mkL mk post (mk x k).1).2) = _; simp) (by omega) (by omega)
    rw [List.length_append, List.length_singleton] at ih
    simp only [List.length_cons, loopM, h3, mkL]
    exact ih
theorem heldE {α ρ T : Type} {mk : α → Int → Int × α} {c : α → Nat} {d : α} {body : Nat → Int → Out ρ Int} {fr : ρ → T} {fd : Int → T} (xs : List α) (k : Int) (hm : ∀ x (k : Int), 0 ≤ k → k + (c x : Int) ≤ 4611686018427387904 → (mk x k).1 = k + (c x : Int)) (hb : ∀ i (k' : Int) x, (mkL mk xs k).2.getD i d = (mk x k').2 → 0 ≤ k' → k' + (c x : Int) ≤ 4611686018427387904 → body i k' = .cont (mk x k').1) (h0 : 0 ≤ k) (h1 : k + (cntL c xs : Int) ≤ 4611686018427387904) : loopE (loopM body ((mkL mk xs k).2.length - 0) 0 k) fr fd = fd (mkL mk xs k).1 := by
  have h := held_loop (mkL mk xs k).2 hm hb xs [] k rfl h0 h1
  rw [Nat.sub_zero, mkL_length, show (0 : Nat) = ([] : List α).length from rfl, h]; rfl
theorem cntL_const {α : Type} (n : Nat) : ∀ xs : List α, cntL (fun _ => n) xs = n * xs.length
  | [] => rfl
  | x :: xs => by unfold cntL; rw [cntL_const n xs, List.length_cons, Nat.mul_succ]; omega
theorem getD_set_self {α : Type} {d : α} {xs : List α} {i : Nat} {v : α} (h : i < xs.length) : (xs.set i v).getD i d = v := by
  rw [List.getD_eq_getElem?_getD, List.getElem?_set]; simp [h]
theorem wtd {n c : Int} (hc : 1 < c) (h : 0 < n) (h2 : n ≤ 9223372036854775807) : 0 ≤ IntKind.wrap .i64 (Int.tdiv n c) ∧ c * IntKind.wrap .i64 (Int.tdiv n c) ≤ n ∧ IntKind.wrap .i64 (Int.tdiv n c) < n := by
  have h1 : Int.tdiv n c = n / c := Int.tdiv_eq_ediv_of_nonneg (by omega)
  have h3 : 0 ≤ n / c := Int.ediv_nonneg (by omega) (by omega)
  have h4 : n / c < n := Int.ediv_lt_self_of_pos_of_ne_one h (by omega)
  have h5 : c * (n / c) ≤ n := Int.mul_ediv_self_le (by omega)
  rw [h1, wrap_in (by omega)]
  exact ⟨h3, h5, h4⟩
theorem wrap_le (n : Int) : IntKind.wrap .i64 n ≤ 9223372036854775807 := by rw [IntKind.wrap_i64]; omega
theorem neg1_le : (-1 : Int) ≤ 9223372036854775807 := by decide
end Go.X
