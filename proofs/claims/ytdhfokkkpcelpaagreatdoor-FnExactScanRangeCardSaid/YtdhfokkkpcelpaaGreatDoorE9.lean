/- Plain laws of loops; the bulk that a law lets pass; copies and comparisons of lists. -/
import Derived.Test.YtdhfokkkpcelpaaGreatDoorE8
set_option linter.unusedVariables false
set_option linter.unusedSimpArgs false
namespace Go.X
open Go.RowKit
theorem loopM_inv {ρ σ : Type} {body : Nat → σ → Out ρ σ} (I : Nat → σ → Prop) (D : σ → Prop) (Q : ρ → Prop) : ∀ (n k : Nat) (s : σ), I k s → (∀ s, I (k + n) s → D s) →
    (∀ j s, k ≤ j → j < k + n → I j s → match body j s with | .ret r => Q r | .brk s' => D s' | .cont s' => I (j + 1) s') → match loopM body n k s with | .ret r => Q r | .done s => D s
  | 0, _, s, h0, hD, _ => hD s h0
  | n + 1, k, s, h0, hD, hs => by
    have h1 := hs k s (Nat.le_refl _) (by omega) h0
    unfold loopM
    cases hb : body k s with
    | ret r => rw [hb] at h1; exact h1
    | brk s' => rw [hb] at h1; exact h1
    | cont s' =>
      rw [hb] at h1
      exact loopM_inv I D Q n (k + 1) s' h1 (fun s h => hD s (by rwa [Nat.add_right_comm] at h)) fun j s h2 h3 => hs j s (by omega) (by omega)
theorem loopM_val {ρ σ : Type} {body : Nat → σ → Out ρ σ} {T : Type} {fr : ρ → T} {fd : σ → T} (I : Nat → σ → Prop) (V : T → Prop) {n k : Nat} {s : σ} (h0 : I k s) (hD : ∀ s, I (k + n) s → V (fd s))
    (hs : ∀ j s, k ≤ j → j < k + n → I j s → match body j s with | .ret r => V (fr r) | .brk s' => V (fd s') | .cont s' => I (j + 1) s') : V (loopE (loopM body n k s) fr fd) := by
  have h := loopM_inv I (fun s => V (fd s)) (fun r => V (fr r)) n k s h0 hD hs
  cases hl : loopM body n k s with
  | ret r => rw [hl] at h; exact h
  | done s => rw [hl] at h; exact h
theorem wrap_in {n : Int} (h : -9223372036854775808 ≤ n ∧ n ≤ 9223372036854775807) : IntKind.wrap .i64 n = n := by rw [IntKind.wrap_i64]; omega
theorem getD_mem {α : Type} {xs : List α} {d : α} {i : Nat} (h : i < xs.length) : xs.getD i d ∈ xs := by
  simp only [List.getD, List.getElem?_eq_getElem h, Option.getD_some]
  exact List.getElem_mem h
theorem getD_eq {α : Type} {xs : List α} {d : α} {i : Nat} (h : i < xs.length) : xs.getD i d = xs[i] := by
  simp only [List.getD, List.getElem?_eq_getElem h, Option.getD_some]
theorem of_cond_f {b x : Bool} (h : (bif b then x else false) = true) : b = true ∧ x = true := by cases b <;> simp_all
/-! ### Rounds that keep nothing -/
theorem loopU {ρ T : Type} {body : Nat → Unit → Out ρ Unit} {fr : ρ → T} {fd : Unit → T} {n : Nat} (p : Nat → Bool) {r : ρ} (hb : ∀ k, k < n → body k () = bif p k then .cont () else .ret r) :
    loopE (loopM body (n - 0) 0 ()) fr fd = bif (List.range n).all p then fd () else fr r := by
  have key : ∀ m k, (∀ j, k ≤ j → j < k + m → body j () = bif p j then .cont () else .ret r) → loopE (loopM body m k ()) fr fd = bif (List.range' k m).all p then fd () else fr r := by
    intro m
    induction m with
    | zero => intro k _; rfl
    | succ m ih =>
      intro k h
      unfold loopM
      rw [h k (Nat.le_refl _) (by omega), List.range'_succ, List.all_cons]
      cases hp : p k
      · rfl
      · exact ih (k + 1) fun j h1 h2 => h j (by omega) (by omega)
  rw [Nat.sub_zero, key n 0 (fun j _ h => hb j (by omega)), List.range_eq_range']
theorem range_all {α : Type} (d : α) (q : α → Bool) (xs : List α) : (List.range xs.length).all (fun k => q (xs.getD k d)) = xs.all q := by
  rw [Bool.eq_iff_iff, List.all_eq_true, List.all_eq_true]
  constructor
  · intro h x hx
    obtain ⟨i, hi, rfl⟩ := List.getElem_of_mem hx
    have := h i (List.mem_range.2 hi)
    rwa [getD_eq hi] at this
  · intro h k hk
    exact h _ (getD_mem (List.mem_range.1 hk))
theorem allE {α ρ T : Type} {body : Nat → Unit → Out ρ Unit} {fr : ρ → T} {fd : Unit → T} {xs : List α} (d : α) (q : α → Bool) {r : ρ} (hb : ∀ k, body k () = bif q (xs.getD k d) then .cont () else .ret r) :
    loopE (loopM body (xs.length - 0) 0 ()) fr fd = bif xs.all q then fd () else fr r := by
  rw [loopU (fun k => q (xs.getD k d)) (r := r) (fun k _ => hb k), range_all]
theorem orE {α ρ T : Type} {body : Nat → Bool → Out ρ Bool} {fr : ρ → T} {fd : Bool → T} {xs : List α} (d : α) (q : α → Bool) {x0 : Bool} (hb : ∀ k x, body k x = .cont (x || q (xs.getD k d))) :
    loopE (loopM body (xs.length - 0) 0 x0) fr fd = fd (x0 || xs.any q) := by
  refine loopM_val (fun k x => x = (x0 || (xs.take k).any q)) (fun v => v = fd (x0 || xs.any q)) (by simp) ?_ ?_
  · intro s hs
    rw [hs, show 0 + (xs.length - 0) = xs.length by omega, List.take_length]
  · intro j s _ hj hs
    have hj' : j < xs.length := by omega
    rw [hb]
    show (s || q (xs.getD j d)) = (x0 || (xs.take (j + 1)).any q)
    rw [hs, getD_eq hj', List.take_succ_eq_append_getElem hj', List.any_append, Bool.or_assoc]
    simp
theorem mapE {α β ρ T : Type} {body : Nat → List β → Out ρ (List β)} {fr : ρ → T} {fd : List β → T} {xs : List α} (d : α) (q : α → β) {x0 : List β} (hb : ∀ k x, k < xs.length → body k x = .cont (x ++ [q (xs.getD k d)])) :
    loopE (loopM body (xs.length - 0) 0 x0) fr fd = fd (x0 ++ xs.map q) := by
  refine loopM_val (fun k x => x = x0 ++ (xs.take k).map q) (fun v => v = fd (x0 ++ xs.map q)) (by simp) ?_ ?_
  · intro s hs
    rw [hs, show 0 + (xs.length - 0) = xs.length by omega, List.take_length]
  · intro j s _ hj hs
    have hj' : j < xs.length := by omega
    rw [hb j s hj']
    show s ++ [q (xs.getD j d)] = x0 ++ (xs.take (j + 1)).map q
    rw [hs, getD_eq hj', List.take_succ_eq_append_getElem hj', List.map_append, List.append_assoc]
    rfl
def idxF {α : Type} (f : α → Bool) (d : α) (xs : List α) : Int := loopE (loopM (ρ := Int) (fun k (_ : Unit) => bif f (xs.getD k d) then .ret (k : Int) else .cont ()) (xs.length - 0) 0 ()) (fun r => r) (fun _ => -1)
theorem idxF_spec {α : Type} (f : α → Bool) (d : α) (xs : List α) : (idxF f d xs = -1 ∧ ∀ x ∈ xs, f x = false) ∨ ∃ (k : Nat) (h : k < xs.length), idxF f d xs = (k : Int) ∧ f xs[k] = true ∧ ∀ j (h : j < k), f (xs[j]'(by omega)) = false := by
  refine loopM_val (fun k (_ : Unit) => ∀ j, j < k → (h : j < xs.length) → f xs[j] = false) (fun v => (v = -1 ∧ ∀ x ∈ xs, f x = false) ∨ ∃ (k : Nat) (h : k < xs.length), v = (k : Int) ∧ f xs[k] = true ∧ ∀ j (h : j < k), f (xs[j]'(by omega)) = false) (fun j hj => by omega) ?_ ?_
  · intro s hs
    exact .inl ⟨rfl, fun x hx => by
      obtain ⟨i, hi, rfl⟩ := List.getElem_of_mem hx
      exact hs i (by omega) hi⟩
  · intro j s _ hj hs
    have hj' : j < xs.length := by omega
    rw [getD_eq hj']
    cases hf : f xs[j]
    · intro i hi hl
      rcases Nat.lt_or_ge i j with h | h
      · exact hs i h hl
      · obtain rfl : i = j := by omega
        exact hf
    · exact .inr ⟨j, hj', rfl, hf, fun i hi => hs i hi (by omega)⟩
theorem idxF_any {α : Type} (f : α → Bool) (d : α) (xs : List α) : decide (0 ≤ idxF f d xs) = xs.any f := by
  rw [Bool.eq_iff_iff, decide_eq_true_iff, List.any_eq_true]
  rcases idxF_spec f d xs with ⟨h, h2⟩ | ⟨k, hk, h, h2, _⟩
  · rw [h]
    constructor
    · intro h; omega
    · rintro ⟨x, hx, hf⟩; rw [h2 x hx] at hf; cases hf
  · rw [h]
    exact ⟨fun _ => ⟨_, List.getElem_mem hk, h2⟩, fun _ => by omega⟩
/-! ### The bulk -/
theorem szS_ok {s : Str} {L : Int} (hw : wfS s) (hL : 0 ≤ L ∧ L ≤ 1048576) (h : ¬ IntKind.wrap .i64 (L - (s.length : Int)) < 0) : okS s ∧ 0 ≤ IntKind.wrap .i64 (L - (s.length : Int)) ∧ IntKind.wrap .i64 (L - (s.length : Int)) ≤ 1048576 := by
  unfold wfS at hw
  rw [wrap_in (by omega)] at h ⊢
  unfold okS
  omega
theorem szN_ok {α : Type} {wf : α → Prop} {xs : List α} {L : Int} (hw : wfL wf xs) (hL : 0 ≤ L ∧ L ≤ 1048576) (h : ¬ IntKind.wrap .i64 (L - (xs.length : Int)) < 0) : xs.length ≤ 1073741824 ∧ 0 ≤ IntKind.wrap .i64 (L - (xs.length : Int)) ∧ IntKind.wrap .i64 (L - (xs.length : Int)) ≤ 1048576 := by
  have := hw.1
  rw [wrap_in (by omega)] at h ⊢
  omega
def szL {α : Type} (f : α → Int → Int) (d : α) (xs : List α) (L : Int) : Int := loopE (loopM (ρ := Int) (fun k x => bif decide (f (xs.getD k d) x < 0) then .ret (-1) else .cont (f (xs.getD k d) x)) (xs.length - 0) 0 L) (fun r => r) (fun x => x)
theorem szL_ok {α : Type} {f : α → Int → Int} {wf ok : α → Prop} (d : α) (hf : ∀ {x L}, wf x → 0 ≤ L ∧ L ≤ 1048576 → ¬ f x L < 0 → ok x ∧ 0 ≤ f x L ∧ f x L ≤ 1048576) {xs : List α} {L : Int} (hw : wfL wf xs) (hL : 0 ≤ L ∧ L ≤ 1048576)
    (h : ¬ szL f d xs L < 0) : (∀ x ∈ xs, ok x) ∧ 0 ≤ szL f d xs L ∧ szL f d xs L ≤ 1048576 := by
  have key : szL f d xs L < 0 ∨ ((∀ x ∈ xs, ok x) ∧ 0 ≤ szL f d xs L ∧ szL f d xs L ≤ 1048576) := by
    refine loopM_val (fun k (x : Int) => (0 ≤ x ∧ x ≤ 1048576) ∧ ∀ i, i < k → (hi : i < xs.length) → ok xs[i]) (fun v => v < 0 ∨ ((∀ x ∈ xs, ok x) ∧ 0 ≤ v ∧ v ≤ 1048576)) ⟨hL, fun i hi => by omega⟩ ?_ ?_
    · intro s hs
      exact .inr ⟨fun x hx => by
        obtain ⟨i, hi, rfl⟩ := List.getElem_of_mem hx
        exact hs.2 i (by omega) hi, hs.1⟩
    · intro j s _ hj hs
      have hj' : j < xs.length := by omega
      by_cases hc : f (xs.getD j d) s < 0
      · simp only [hc, decide_true, cond_true]; left; omega
      · simp only [hc, decide_false, cond_false]
        obtain ⟨h1, h2⟩ := hf (hw.2 _ (getD_mem hj')) hs.1 hc
        refine ⟨h2, fun i hi hl => ?_⟩
        rcases Nat.lt_or_ge i j with h | h
        · exact hs.2 i h hl
        · obtain rfl : i = j := by omega
          rw [getD_eq hl] at h1; exact h1
  rcases key with hk | hk
  · exact absurd hk h
  · exact hk
def szLL {α : Type} (f : α → Int → Int) (d : α) (xs : List α) (L : Int) : Int := bif decide (IntKind.wrap .i64 (L - (xs.length : Int)) < 0) then -1 else szL f d xs (IntKind.wrap .i64 (L - (xs.length : Int)))
theorem szc {a r : Int} (h : ¬ (bif decide (a < 0) then -1 else r) < 0) : ¬ a < 0 ∧ (bif decide (a < 0) then -1 else r) = r ∧ ¬ r < 0 := by
  by_cases hc : a < 0
  · rw [decide_eq_true hc, cond_true] at h; exact absurd (by decide) h
  · rw [decide_eq_false hc, cond_false] at h ⊢; exact ⟨hc, rfl, h⟩
theorem szLL_ok {α : Type} {f : α → Int → Int} {wf ok : α → Prop} (d : α) (hf : ∀ {x L}, wf x → 0 ≤ L ∧ L ≤ 1048576 → ¬ f x L < 0 → ok x ∧ 0 ≤ f x L ∧ f x L ≤ 1048576) {xs : List α} {L : Int} (hw : wfL wf xs) (hL : 0 ≤ L ∧ L ≤ 1048576)
    (h : ¬ szLL f d xs L < 0) : okL ok xs ∧ 0 ≤ szLL f d xs L ∧ szLL f d xs L ≤ 1048576 := by
  obtain ⟨a, e, h⟩ := szc h
  have e' : szLL f d xs L = _ := e
  have h1 := szN_ok hw hL a
  have h2 := szL_ok d hf hw h1.2 h
  rw [e']
  exact ⟨⟨Nat.le_trans h1.1 (by decide), h2.1⟩, h2.2⟩
/-! ### Copies -/
def toL {α : Type} (f : α → α) (d : α) (xs : List α) : List α := loopE (loopM (ρ := List α) (fun k x => .cont (x.set k (f (xs.getD k d)))) (xs.length - 0) 0 (List.replicate xs.length d)) (fun r => r) (fun x => x)
theorem toL_id {α : Type} {f : α → α} (d : α) (hf : ∀ x, f x = x) (xs : List α) : toL f d xs = xs := by
  refine loopM_val (fun k (x : List α) => x.length = xs.length ∧ ∀ i, i < k → x[i]? = xs[i]?) (fun v => v = xs) ⟨by simp, fun i hi => by omega⟩ ?_ ?_
  · intro s hs
    apply List.ext_getElem? fun i => ?_
    rcases Nat.lt_or_ge i xs.length with h | h
    · exact hs.2 i (by omega)
    · rw [List.getElem?_eq_none h, List.getElem?_eq_none (by omega)]
  · intro j s _ hj hs
    have hj' : j < xs.length := by omega
    refine ⟨by rw [List.length_set]; exact hs.1, fun i hi => ?_⟩
    rw [List.getElem?_set]
    split
    · rename_i h; subst h
      rw [if_pos (by omega), hf, getD_eq hj', List.getElem?_eq_getElem hj']
    · exact hs.2 i (by omega)
/-! ### Comparisons -/
def eqL {α : Type} (f : α → α → Bool) (d : α) (xs ys : List α) : Bool := bif decide ((xs.length : Int) = (ys.length : Int)) then loopE (loopM (ρ := Bool) (fun k (_ : Unit) => bif f (xs.getD k d) (ys.getD k d) then .cont () else .ret false) (xs.length - 0) 0 ()) (fun r => r) (fun _ => true) else false
theorem eqL_refl {α : Type} {f : α → α → Bool} (d : α) (hf : ∀ x, f x x = true) (xs : List α) : eqL f d xs xs = true := by
  unfold eqL
  rw [decide_eq_true rfl, cond_true]
  refine loopM_val (fun _ (_ : Unit) => True) (fun v => v = true) trivial (fun _ _ => rfl) ?_
  intro j s _ _ _
  simp only [hf, cond_true]
/-! ### The order of strings -/
theorem bytesLess_lt : ∀ (x y : Str), Op.bytesLess x y = decide (x < y)
  | [], [] => by simp [Op.bytesLess]
  | _ :: _, [] => by simp [Op.bytesLess]
  | [], _ :: _ => by simp [Op.bytesLess]
  | a :: x, b :: y => by
    rw [Op.bytesLess, bytesLess_lt x y]
    simp only [List.cons_lt_cons_iff]
    by_cases h1 : a < b <;> by_cases h2 : a = b <;> by_cases h3 : x < y <;> simp [h1, h2, h3]
theorem sLt_iff (a b : Str) : sLt a b = true ↔ a < b := by
  unfold sLt; rw [bytesLess_lt, decide_eq_true_iff]
theorem str_tri (a b : Str) : a < b ∨ a = b ∨ b < a := by
  induction a generalizing b with
  | nil => cases b with
    | nil => exact .inr (.inl rfl)
    | cons y b => exact .inl (List.nil_lt_cons y b)
  | cons x a ih => cases b with
    | nil => exact .inr (.inr (List.nil_lt_cons x a))
    | cons y b =>
      simp only [List.cons_lt_cons_iff]
      rcases Nat.lt_trichotomy x.toNat y.toNat with h | h | h
      · exact .inl (.inl h)
      · have : x = y := UInt8.toNat.inj h
        subst this
        rcases ih b with h | h | h
        · exact .inl (.inr ⟨rfl, h⟩)
        · exact .inr (.inl (by rw [h]))
        · exact .inr (.inr (.inr ⟨rfl, h⟩))
      · exact .inr (.inr (.inl h))
theorem str_irr (a : Str) : ¬ a < a := List.lt_irrefl a
theorem str_trans {a b c : Str} (h : a < b) (k : b < c) : a < c := List.lt_trans h k
theorem str_asymm {a b : Str} (h : a < b) : ¬ b < a := fun k => str_irr a (str_trans h k)
theorem sLe_not (a b : Str) : sLe a b = !(sLt b a) := by
  unfold sLe
  rw [Bool.eq_iff_iff]
  simp only [Bool.or_eq_true, beq_iff_eq, Bool.not_eq_true', ← Bool.not_eq_true, sLt_iff]
  constructor
  · rintro (h | h)
    · exact str_asymm h
    · subst h; exact str_irr a
  · intro h
    rcases str_tri a b with k | k | k
    · exact .inl k
    · exact .inr k
    · exact absurd k h
end Go.X
