/- Lists whose elements own memory, in no order of blocks. -/
import Derived.Test.YtdhfokkkpcelpaaGreatDoorE31
set_option linter.unusedVariables false
set_option linter.unusedSimpArgs false
namespace Go.X
open Go.RowKit
def Apt (v u : Nat × Nat) : Prop := v.2 ≤ u.1 ∨ u.2 ≤ v.1
theorem Apt.symm {v u : Nat × Nat} (h : Apt v u) : Apt u v := Or.symm h
inductive ChI {α : Type} (RO : RelO α) (w : World) (sz : Nat) (g : Option Nat) (lo hi : Nat) : List (Nat × Nat) → List (List Value) → List α → Prop
  | nil : ChI RO w sz g lo hi [] [] []
  | cons {v : Nat × Nat} {c : List Value} {x : α} {vs : List (Nat × Nat)} {cs : List (List Value)} {xs : List α} (h0 : lo ≤ v.1 ∧ v.1 ≤ v.2 ∧ v.2 ≤ hi) (hl : c.length = sz) (hg : ∀ k, g = some k → k < v.1 ∨ v.2 ≤ k) (hr : RO w v.1 v.2 c x) (hd : ∀ u ∈ vs, Apt v u) (hs : ChI RO w sz g lo hi vs cs xs) : ChI RO w sz g lo hi (v :: vs) (c :: cs) (x :: xs)
section
variable {α : Type} {RO : RelO α} {R : Rel α} {w w' : World} {sz : Nat} {g g' : Option Nat} {lo hi lo' hi' i : Nat} {cs : List (List Value)} {xs : List α} {vs : List (Nat × Nat)} {c : List Value}
theorem ChI.len (k : ChI RO w sz g lo hi vs cs xs) : cs.length = xs.length ∧ vs.length = xs.length ∧ cs.flatten.length = xs.length * sz := by
  induction k with
  | nil => simp
  | cons h0 hl hg hr hd hs ih =>
    obtain ⟨a, b, d⟩ := ih
    refine ⟨by simp [a], by simp [b], ?_⟩
    rw [List.flatten_cons, List.length_append, hl, d, List.length_cons, Nat.succ_mul]; omega
theorem ChI.in (k : ChI RO w sz g lo hi vs cs xs) : ∀ v ∈ vs, lo ≤ v.1 ∧ v.1 ≤ v.2 ∧ v.2 ≤ hi ∧ ∀ b, g = some b → b < v.1 ∨ v.2 ≤ b := by
  induction k with
  | nil => intro v hv; cases hv
  | cons h0 hl hg hr hd hs ih =>
    intro u hu
    rcases List.mem_cons.1 hu with rfl | hu
    · exact ⟨h0.1, h0.2.1, h0.2.2, hg⟩
    · exact ih u hu
theorem ChI.keepV (hG : GdO RO R) (k : ChI RO w sz g lo hi vs cs xs) (hk : ∀ v ∈ vs, ∀ b, v.1 ≤ b → b < v.2 → b < w.heap.size → w'.heap[b]? = w.heap[b]?) : ChI RO w' sz g lo hi vs cs xs := by
  induction k with
  | nil => exact .nil
  | cons h0 hl hg hr hd hs ih => exact .cons h0 hl hg (hG.keep hr (hk _ (List.mem_cons_self ..))) hd (ih fun v hv => hk v (List.mem_cons_of_mem _ hv))
theorem ChI.keep (hG : GdO RO R) (k : ChI RO w sz g lo hi vs cs xs) (hk : ∀ b, lo ≤ b → b < hi → g ≠ some b → b < w.heap.size → w'.heap[b]? = w.heap[b]?) : ChI RO w' sz g lo hi vs cs xs :=
  k.keepV hG fun v hv b h1 h2 h3 => by
    obtain ⟨a1, a2, a3, a4⟩ := k.in v hv
    exact hk b (by omega) (by omega) (fun e => by have := a4 b e; omega) h3
theorem ChI.to (k : ChI RO w sz g lo hi vs cs xs) (hv : ∀ v ∈ vs, lo' ≤ v.1 ∧ v.2 ≤ hi' ∧ ∀ b, g' = some b → b < v.1 ∨ v.2 ≤ b) : ChI RO w sz g' lo' hi' vs cs xs := by
  induction k with
  | nil => exact .nil
  | cons h0 hl hg hr hd hs ih =>
    obtain ⟨a, b, d⟩ := hv _ (List.mem_cons_self ..)
    exact .cons ⟨a, h0.2.1, b⟩ hl d hr hd (ih fun v h => hv v (List.mem_cons_of_mem _ h))
theorem ChI.enc (hG : GdO RO R) (hg : Gd R) (k : ChI RO w sz g lo hi vs cs xs) : EncL (R w fun b => lo ≤ b ∧ b < hi ∧ g ≠ some b) sz cs.flatten xs := by
  induction k with
  | nil => exact .nil
  | cons h0 hl hg' hr hd hs ih =>
    rw [List.flatten_cons]
    exact .cons hl (hg.wide (hG.rd hr) fun b hb _ => ⟨Nat.le_trans h0.1 hb.1, Nat.lt_of_lt_of_le hb.2 h0.2.2, fun e => by have := hg' b e; have := hb.1; have := hb.2; omega⟩) ih
theorem ChI.ones (hG : GdO RO R) (k : ChI RO w sz g lo hi vs cs xs) : ∀ u ∈ cs.flatten, u.oneCell' = true := by
  induction k with
  | nil => intro u hu; cases hu
  | cons h0 hl hg' hr hd hs ih =>
    intro u hu
    rw [List.flatten_cons] at hu
    rcases List.mem_append.1 hu with hu | hu
    · exact List.all_eq_true.1 (hG.one hr) u hu
    · exact ih u hu
theorem ChI.ins {v : Nat × Nat} {x : α} (h0 : lo ≤ v.1 ∧ v.1 ≤ v.2 ∧ v.2 ≤ hi) (hl : c.length = sz) (hg : ∀ k, g = some k → k < v.1 ∨ v.2 ≤ k) (hr : RO w v.1 v.2 c x) (k : ChI RO w sz g lo hi vs cs xs) : ∀ {i : Nat}, i ≤ xs.length → (∀ u ∈ vs, Apt v u) →
    ∃ us, ChI RO w sz g lo hi us (cs.take i ++ c :: cs.drop i) (xs.take i ++ x :: xs.drop i) ∧ ∀ u ∈ us, u = v ∨ u ∈ vs := by
  induction k with
  | nil => intro i hi hd; exact ⟨[v], by simpa using ChI.cons h0 hl hg hr (fun u h => by cases h) ChI.nil, fun u hu => .inl (List.mem_singleton.1 hu)⟩
  | @cons v' c' x' vs cs xs h0' hl' hg' hr' hd' hs ih =>
    intro i hi hd
    cases i with
    | zero => exact ⟨v :: v' :: vs, .cons h0 hl hg hr hd (.cons h0' hl' hg' hr' hd' hs), fun u hu => (List.mem_cons.1 hu).imp id id⟩
    | succ i =>
      obtain ⟨us, a, b⟩ := ih (i := i) (by simpa using hi) fun u hu => hd u (List.mem_cons_of_mem _ hu)
      refine ⟨v' :: us, .cons h0' hl' hg' hr' (fun u hu => ?_) a, fun u hu => ?_⟩
      · rcases b u hu with rfl | h
        · exact (hd v' (List.mem_cons_self ..)).symm
        · exact hd' u h
      · rcases List.mem_cons.1 hu with rfl | h
        · exact .inr (List.mem_cons_self ..)
        · exact (b u h).imp id (List.mem_cons_of_mem _)
theorem ChI.del (d : α) (k : ChI RO w sz g lo hi vs cs xs) : ∀ {i : Nat}, i < xs.length → ∃ v c us ds, (lo ≤ v.1 ∧ v.1 ≤ v.2 ∧ v.2 ≤ hi) ∧ c.length = sz ∧ (∀ k, g = some k → k < v.1 ∨ v.2 ≤ k) ∧ RO w v.1 v.2 c (xs.getD i d) ∧ (∀ u ∈ us, Apt v u) ∧
    ChI RO w sz g lo hi us ds (xs.eraseIdx i) ∧ cs = ds.take i ++ c :: ds.drop i ∧ (∀ u ∈ us, u ∈ vs) ∧ v ∈ vs := by
  induction k with
  | nil => intro i hi; simp at hi
  | @cons v' c' x' vs cs xs h0' hl' hg' hr' hd' hs ih =>
    intro i hi
    cases i with
    | zero => exact ⟨v', c', vs, cs, h0', hl', hg', hr', hd', hs, rfl, fun u hu => List.mem_cons_of_mem _ hu, List.mem_cons_self ..⟩
    | succ i =>
      obtain ⟨v, c, us, ds, a1, a2, a3, a4, a5, a6, a7, a8, a9⟩ := ih (i := i) (by simpa using hi)
      refine ⟨v, c, v' :: us, c' :: ds, a1, a2, a3, by simpa using a4, fun u hu => ?_, ?_, by rw [a7]; rfl, fun u hu => ?_, List.mem_cons_of_mem _ a9⟩
      · rcases List.mem_cons.1 hu with rfl | h
        · exact (hd' v a9).symm
        · exact a5 u h
      · exact .cons h0' hl' hg' hr' (fun u hu => hd' u (a8 u hu)) a6
      · rcases List.mem_cons.1 hu with rfl | h
        · exact List.mem_cons_self ..
        · exact List.mem_cons_of_mem _ (a8 u h)
theorem Chain.toI (k : Chain RO w sz g lo hi cs xs) : ∃ vs, ChI RO w sz g lo hi vs cs xs := by
  suffices h : ∃ vs, ChI RO w sz g lo hi vs cs xs ∧ lo ≤ hi by exact ⟨h.choose, h.choose_spec.1⟩
  induction k with
  | nil h => exact ⟨[], .nil, h⟩
  | @cons lo l h hi c x cs xs h1 h2 hl hg hr hs ih =>
    obtain ⟨vs, a, b⟩ := ih
    refine ⟨(l, h) :: vs, .cons ⟨h1, h2, b⟩ hl hg hr (fun u hu => .inl (a.in u hu).1) (a.to fun v hv => ?_), by omega⟩
    obtain ⟨c1, c2, c3, c4⟩ := a.in v hv
    exact ⟨by omega, c3, c4⟩
end
def OwnU {α : Type} (w : World) (lo hi E sz : Nat) (RO : RelO α) (A : Option Addr) (n c : Nat) (xs : List α) : Prop :=
  n = xs.length ∧ ((n = 0 ∧ c = 0) ∨ ∃ cells vs, Own w lo E sz A n c cells.flatten ∧ (∀ k, blk A = some k → lo ≤ k ∧ k < hi) ∧ ChI RO w sz (blk A) lo hi vs cells xs)
section
variable {α : Type} {RO : RelO α} {R : Rel α} {w w' : World} {lo hi E sz n c i : Nat} {A : Option Addr} {xs : List α}
theorem OwnD.toU (h : OwnD w lo hi E sz RO A n c xs) : OwnU w lo hi E sz RO A n c xs :=
  ⟨h.1, h.2.imp id fun ⟨cells, ho, hb, hc⟩ => by obtain ⟨vs, k⟩ := hc.toI; exact ⟨cells, vs, ho, hb, k⟩⟩
theorem OwnU.len (h : OwnU w lo hi E sz RO A n c xs) : n = xs.length := h.1
theorem OwnU.fix (h : OwnU w lo hi E sz RO A n c xs) : OwnU w lo hi E sz RO A xs.length c xs := by
  obtain rfl := h.1
  exact h
theorem OwnU.nil (w : World) (lo hi E sz : Nat) (RO : RelO α) : OwnU w lo hi E sz RO none 0 0 [] := ⟨rfl, .inl ⟨rfl, rfl⟩⟩
theorem OwnU.empty (w : World) (lo hi E sz : Nat) (RO : RelO α) (A : Option Addr) : OwnU w lo hi E sz RO A 0 0 [] := ⟨rfl, .inl ⟨rfl, rfl⟩⟩
theorem OwnU.own (hG : GdO RO R) (hg : Gd R) (h : OwnU w lo hi E sz RO A n c xs) : OwnL w lo hi E sz R A n c xs :=
  ⟨h.1, h.2.imp id fun ⟨cells, vs, ho, hb, hc⟩ => ⟨hb, fun b => lo ≤ b ∧ b < hi ∧ blk A ≠ some b, _, ho, hc.enc hG hg, fun k hk hh => hh.2.2 hk, fun b hb => ⟨hb.1, hb.2.1⟩⟩⟩
theorem OwnU.keep (hG : GdO RO R) (h : OwnU w lo hi E sz RO A n c xs) (hk : ∀ b, lo ≤ b → b < hi → b < w.heap.size → w'.heap[b]? = w.heap[b]?) : OwnU w' lo hi E sz RO A n c xs := by
  refine ⟨h.1, h.2.imp id fun ⟨cells, vs, ho, hb, hc⟩ => ⟨cells, vs, ho.keep fun k e => ?_, hb, hc.keep hG fun b h1 h2 _ h3 => hk b h1 h2 h3⟩⟩
  obtain ⟨_, _, hf⟩ := ho.form
  obtain ⟨k1, k2⟩ := hb k e
  rcases hf with ⟨hA, _⟩ | ⟨g', hA, _, hlt⟩
  · subst hA; cases e
  · subst hA
    simp only [blk, Option.some.injEq] at e
    subst e
    exact hk _ k1 k2 hlt
theorem OwnU.ex (hG : GdO RO R) (h : OwnU w lo hi E sz RO A n c xs) (e : Ex w w') : OwnU w' lo hi E sz RO A n c xs := h.keep hG fun b _ _ hl => Below.block e b hl
theorem OwnU.only (hG : GdO RO R) {b : Nat} (h : OwnU w lo hi E sz RO A n c xs) (e : Only b w w') (hb : b < lo ∨ hi ≤ b) : OwnU w' lo hi E sz RO A n c xs := h.keep hG fun k h1 h2 _ => e.block k (by omega)
theorem OwnU.grown (hG : GdO RO R) {row : Option Nat} (h : OwnU w lo hi E sz RO A n c xs) (e : w.grownBy w' row) (hb : ∀ k, row = some k → k < lo ∨ hi ≤ k) : OwnU w' lo hi E sz RO A n c xs := h.keep hG fun k h1 h2 h3 => e.block k h3 (fun hh => by have := hb k hh.symm; omega)
theorem OwnU.chg (hG : GdO RO R) {p : Nat → Prop} (h : OwnU w lo hi E sz RO A n c xs) (e : Chg p w w') (hp : ∀ b, b < w.heap.size → p b → b < lo ∨ hi ≤ b) : OwnU w' lo hi E sz RO A n c xs := h.keep hG fun b h1 h2 hl => e.block b hl fun hh => by have := hp b hl hh; omega
theorem OwnU.mut (hG : GdO RO R) {r : List (Nat × Nat)} (h : OwnU w lo hi E sz RO A n c xs) (e : Mut r w w') (hd : ∀ k, InR r k → k < lo ∨ hi ≤ k) : OwnU w' lo hi E sz RO A n c xs :=
  e.carry (F := fun w => OwnU w lo hi E sz RO A n c xs) h (fun _ _ h e => h.ex hG e) (fun _ _ k h e hk => h.only hG e (hd k hk))
theorem OwnU.more {lo' hi' : Nat} (h : OwnU w lo hi E sz RO A n c xs) (hl : lo' ≤ lo) (hh : hi ≤ hi') : OwnU w lo' hi' E sz RO A n c xs :=
  ⟨h.1, h.2.imp id fun ⟨cells, vs, ho, hb, hc⟩ => ⟨cells, vs, ⟨⟨ho.1.1, by
    rcases ho.1.2 with hx | ⟨g, cap, cur, hv, hg, r⟩
    · exact .inl hx
    · exact .inr ⟨g, cap, cur, hv, by omega, r⟩⟩, ho.2⟩, fun k hk => by have := hb k hk; omega, hc.to fun v hv => by
      obtain ⟨a1, a2, a3, a4⟩ := hc.in v hv
      exact ⟨by omega, by omega, a4⟩⟩⟩
def OwnV {α : Type} (w : World) (lo hi E sz : Nat) (RO : RelO α) (A : Option Addr) (n c : Nat) (xs : List α) (i : Nat) (v : Nat × Nat) (e : List Value) : Prop :=
  n = xs.length ∧ i < n ∧ e.length = sz ∧ ∃ ds us, Own w lo E sz A n c (ds.take i ++ e :: ds.drop i).flatten ∧ (∀ k, blk A = some k → (lo ≤ k ∧ k < hi) ∧ (k < v.1 ∨ v.2 ≤ k)) ∧ ChI RO w sz (blk A) lo hi us ds (xs.eraseIdx i) ∧ ∀ u ∈ us, Apt v u
theorem OwnU.open (d : α) (h : OwnU w lo hi E sz RO A n c xs) (hi' : i < n) : ∃ g v e, A = some ⟨g, 0, none⟩ ∧ (lo ≤ g ∧ g < hi) ∧ g < w.heap.size ∧ (g < v.1 ∨ v.2 ≤ g) ∧ (lo ≤ v.1 ∧ v.1 ≤ v.2 ∧ v.2 ≤ hi) ∧ RO w v.1 v.2 e (xs.getD i d) ∧ OwnV w lo hi E sz RO A n c xs i v e := by
  obtain ⟨h0, h2⟩ := h
  rcases h2 with ⟨h2, _⟩ | ⟨cells, vs, ho, hb, hc⟩
  · omega
  · obtain ⟨v, e, us, ds, a1, a2, a3, a4, a5, a6, a7, a8, a9⟩ := hc.del d (i := i) (by omega)
    obtain ⟨_, _, hf⟩ := ho.form
    rcases hf with ⟨hA, hn⟩ | ⟨g, hA, hlo, hlt⟩
    · omega
    · subst hA
      exact ⟨g, v, e, rfl, hb g rfl, hlt, a3 g rfl, a1, a4, h0, hi', a2, ds, us, by rw [← a7]; exact ho, fun k hk => ⟨hb k hk, a3 k hk⟩, a6, a5⟩
theorem erase_ins {x : α} : ∀ {xs : List α} {i : Nat}, i < xs.length → (xs.eraseIdx i).take i ++ x :: (xs.eraseIdx i).drop i = xs.set i x
  | y :: ys, 0, _ => rfl
  | y :: ys, i + 1, h => by
    have := erase_ins (x := x) (xs := ys) (i := i) (by simpa using h)
    show y :: ((ys.eraseIdx i).take i ++ x :: (ys.eraseIdx i).drop i) = y :: ys.set i x
    rw [this]
theorem OwnV.close {v v' : Nat × Nat} {e : List Value} {x : α} {hi2 : Nat} (k : OwnV w lo hi E sz RO A n c xs i v e) (hr : RO w v'.1 v'.2 e x) (hh : hi ≤ hi2) (hv : (v' = v ∧ lo ≤ v.1 ∧ v.1 ≤ v.2 ∧ v.2 ≤ hi) ∨ (hi ≤ v'.1 ∧ lo ≤ v'.1 ∧ v'.1 ≤ v'.2 ∧ v'.2 ≤ hi2)) : OwnU w lo hi2 E sz RO A n c (xs.set i x) := by
  obtain ⟨h0, h1, h2, ds, us, ho, hb, hc, hd⟩ := k
  have hin := hc.in
  have hlen := hc.len
  have her : (xs.eraseIdx i).length = xs.length - 1 := List.length_eraseIdx_of_lt (by omega)
  obtain ⟨vs, k, _⟩ := ChI.ins (v := v') (x := x) (lo := lo) (hi := hi2) (c := e) (g := blk A) (by
      rcases hv with ⟨rfl, h⟩ | h
      · omega
      · omega) h2 (fun k hk => by
      have := hb k hk
      rcases hv with ⟨rfl, h⟩ | h
      · exact this.2
      · omega) hr (hc.to (lo' := lo) (hi' := hi2) (g' := blk A) fun u hu => by
      obtain ⟨b1, b2, b3, b4⟩ := hin u hu
      exact ⟨b1, by omega, b4⟩) (i := i) (by omega) (fun u hu => by
      rcases hv with ⟨rfl, h⟩ | h
      · exact hd u hu
      · have := hin u hu
        exact .inr (by omega))
  rw [erase_ins (by omega)] at k
  exact ⟨by rw [List.length_set]; exact h0, .inr ⟨_, vs, ho, fun k hk => by have := hb k hk; omega, k⟩⟩
theorem OwnV.cells {g : Nat} {v : Nat × Nat} {e : List Value} (h : OwnV w lo hi E sz RO (some ⟨g, 0, none⟩) n c xs i v e) : Cells w g (0 + i * sz) e := by
  obtain ⟨h0, h1, h2, ds, us, ho, hb, hc, hd⟩ := h
  have her : (xs.eraseIdx i).length = xs.length - 1 := List.length_eraseIdx_of_lt (by omega)
  have hlen := hc.len
  intro j u hu
  have hj : j < e.length := by
    rcases Nat.lt_or_ge j e.length with h | h
    · exact h
    · rw [List.getElem?_eq_none h] at hu; cases hu
  have hpre : (ds.take i).flatten.length = i * sz := by
    have hs : ∀ {vs : List (Nat × Nat)} {cs : List (List Value)} {ys : List α}, ChI RO w sz (some g) lo hi vs cs ys → ∀ d ∈ cs, d.length = sz := by
      intro vs cs ys k
      induction k with
      | nil => intro d hd; cases hd
      | cons h0 hl hg hr hd hs ih =>
        intro d hd
        rcases List.mem_cons.1 hd with rfl | hd
        · exact hl
        · exact ih d hd
    have hall : ∀ (cs : List (List Value)), (∀ d ∈ cs, d.length = sz) → cs.flatten.length = cs.length * sz := by
      intro cs
      induction cs with
      | nil => intro _; simp
      | cons d cs ih =>
        intro h
        rw [List.flatten_cons, List.length_append, h d (List.mem_cons_self ..), ih fun d hd => h d (List.mem_cons_of_mem _ hd), List.length_cons, Nat.succ_mul]; omega
    rw [hall _ fun d hd => hs hc d (List.mem_of_mem_take hd), List.length_take, Nat.min_eq_left (by omega)]
  have := ho.cells (i * sz + j) u (by
    rw [List.flatten_append, List.flatten_cons, List.getElem?_append_right (by omega), hpre, Nat.add_sub_cancel_left, List.getElem?_append_left hj]
    exact hu)
  simpa [Nat.add_assoc] using this
theorem OwnV.keep (hG : GdO RO R) {v : Nat × Nat} {e : List Value} (h : OwnV w lo hi E sz RO A n c xs i v e) (hk : ∀ b, lo ≤ b → b < hi → (b < v.1 ∨ v.2 ≤ b) → b < w.heap.size → w'.heap[b]? = w.heap[b]?) : OwnV w' lo hi E sz RO A n c xs i v e := by
  obtain ⟨h0, h1, h2, ds, us, ho, hb, hc, hd⟩ := h
  refine ⟨h0, h1, h2, ds, us, ho.keep fun k e => ?_, hb, hc.keepV hG fun u hu b b1 b2 b3 => ?_, hd⟩
  · obtain ⟨_, _, hf⟩ := ho.form
    obtain ⟨⟨k1, k2⟩, k3⟩ := hb k e
    rcases hf with ⟨hA, _⟩ | ⟨g', hA, _, hlt⟩
    · subst hA; cases e
    · subst hA
      simp only [blk, Option.some.injEq] at e
      subst e
      exact hk _ k1 k2 k3 hlt
  · obtain ⟨a1, a2, a3, _⟩ := hc.in u hu
    have := hd u hu
    unfold Apt at this
    exact hk b (by omega) (by omega) (by omega) b3
theorem OwnV.ex (hG : GdO RO R) {v : Nat × Nat} {e : List Value} (h : OwnV w lo hi E sz RO A n c xs i v e) (x : Ex w w') : OwnV w' lo hi E sz RO A n c xs i v e := h.keep hG fun b _ _ _ hl => Below.block x b hl
theorem OwnV.chg (hG : GdO RO R) {p : Nat → Prop} {v : Nat × Nat} {e : List Value} (h : OwnV w lo hi E sz RO A n c xs i v e) (x : Chg p w w') (hp : ∀ b, b < w.heap.size → p b → b < lo ∨ hi ≤ b ∨ (v.1 ≤ b ∧ b < v.2)) : OwnV w' lo hi E sz RO A n c xs i v e := h.keep hG fun b h1 h2 h3 hl => x.block b hl fun hh => by have := hp b hl hh; omega
theorem OwnV.grown (hG : GdO RO R) {row : Option Nat} {v : Nat × Nat} {e : List Value} (h : OwnV w lo hi E sz RO A n c xs i v e) (x : w.grownBy w' row) (hp : ∀ b, row = some b → b < lo ∨ hi ≤ b ∨ (v.1 ≤ b ∧ b < v.2)) : OwnV w' lo hi E sz RO A n c xs i v e := h.keep hG fun b h1 h2 h3 hl => x.block b hl fun hh => by have := hp b hh.symm; omega
end
section
variable {α : Type} {P : Program} {o : Oper} {L : List (Nat × Value)} {w : World} {Q : Value → World → Prop} {RO : RelO α} {R : Rel α}
end
/-! ### elements as bare cells -/
section
variable {α : Type} {RO : RelO α} {R : Rel α} {w w' : World} {lo hi E sz n c i : Nat} {A : Option Addr} {xs : List α} {g : Option Nat} {vs : List (Nat × Nat)} {cells : List (List Value)}
end
end Go.X
