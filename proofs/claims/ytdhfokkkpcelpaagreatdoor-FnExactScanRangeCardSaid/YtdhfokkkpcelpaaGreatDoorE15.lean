/- Lists whose elements own memory too: each element's blocks are the list's own. -/
import Derived.Test.YtdhfokkkpcelpaaGreatDoorE14
set_option linter.unusedVariables false
set_option linter.unusedSimpArgs false
namespace Go.X
open Go.RowKit
abbrev RelO (α : Type) := World → Nat → Nat → List Value → α → Prop
structure GdO {α : Type} (RO : RelO α) (R : Rel α) : Prop where
  keep : ∀ {w w' : World} {l h : Nat} {c : List Value} {x : α}, RO w l h c x → (∀ b, l ≤ b → b < h → b < w.heap.size → w'.heap[b]? = w.heap[b]?) → RO w' l h c x
  one : ∀ {w : World} {l h : Nat} {c : List Value} {x : α}, RO w l h c x → c.all Value.oneCell' = true
  rd : ∀ {w : World} {l h : Nat} {c : List Value} {x : α}, RO w l h c x → R w (Iv l h) c x
inductive Chain {α : Type} (RO : RelO α) (w : World) (sz : Nat) (g : Option Nat) : Nat → Nat → List (List Value) → List α → Prop
  | nil {lo hi : Nat} (h : lo ≤ hi) : Chain RO w sz g lo hi [] []
  | cons {lo l h hi : Nat} {c : List Value} {x : α} {cs : List (List Value)} {xs : List α} (h1 : lo ≤ l) (h2 : l ≤ h) (hl : c.length = sz) (hg : ∀ k, g = some k → k < l ∨ h ≤ k) (hr : RO w l h c x) (hs : Chain RO w sz g h hi cs xs) : Chain RO w sz g lo hi (c :: cs) (x :: xs)
inductive ChainX {α : Type} (RO : RelO α) (w : World) (sz : Nat) (g : Option Nat) (l h : Nat) (c : List Value) : Nat → Nat → Nat → List (List Value) → List α → Prop
  | here {lo hi : Nat} {x : α} {cs : List (List Value)} {xs : List α} (h1 : lo ≤ l) (h2 : l ≤ h) (hl : c.length = sz) (hg : ∀ k, g = some k → k < l ∨ h ≤ k) (hs : Chain RO w sz g h hi cs xs) : ChainX RO w sz g l h c 0 lo hi (c :: cs) (x :: xs)
  | there {i lo l' h' hi : Nat} {c' : List Value} {x : α} {cs : List (List Value)} {xs : List α} (h1 : lo ≤ l') (h2 : l' ≤ h') (hl : c'.length = sz) (hg : ∀ k, g = some k → k < l' ∨ h' ≤ k) (hr : RO w l' h' c' x) (hs : ChainX RO w sz g l h c i h' hi cs xs) : ChainX RO w sz g l h c (i + 1) lo hi (c' :: cs) (x :: xs)
section
variable {α : Type} {RO : RelO α} {R : Rel α} {w w' : World} {sz : Nat} {g g' : Option Nat} {lo hi m l h i : Nat} {cs ds : List (List Value)} {xs ys : List α} {c : List Value}
theorem Chain.le (k : Chain RO w sz g lo hi cs xs) : lo ≤ hi := by
  induction k with
  | nil h => exact h
  | cons h1 h2 _ _ _ _ ih => omega
theorem Chain.keep (hG : GdO RO R) (k : Chain RO w sz g lo hi cs xs) (hk : ∀ b, lo ≤ b → b < hi → g ≠ some b → b < w.heap.size → w'.heap[b]? = w.heap[b]?) : Chain RO w' sz g lo hi cs xs := by
  induction k with
  | nil h => exact .nil h
  | @cons lo l h hi c x cs xs h1 h2 hl hg hr hs ih =>
    have := hs.le
    exact .cons h1 h2 hl hg (hG.keep hr fun b hb1 hb2 hb3 => hk b (by omega) (by omega) (fun e => by have := hg b e; omega) hb3) (ih fun b hb1 hb2 hb3 => hk b (by omega) hb2 hb3)
theorem Chain.other (k : Chain RO w sz g lo hi cs xs) (hg' : ∀ k, g' = some k → k < lo ∨ hi ≤ k) : Chain RO w sz g' lo hi cs xs := by
  induction k with
  | nil h => exact .nil h
  | cons h1 h2 hl hg hr hs ih =>
    have := hs.le
    exact .cons h1 h2 hl (fun k e => by have := hg' k e; omega) hr (ih fun k e => by have := hg' k e; omega)
theorem Chain.low (k : Chain RO w sz g lo hi cs xs) (hm : m ≤ lo) : Chain RO w sz g m hi cs xs := by
  cases k with
  | nil h => exact .nil (by omega)
  | cons h1 h2 hl hg hr hs => exact .cons (by omega) h2 hl hg hr hs
theorem Chain.high (k : Chain RO w sz g lo hi cs xs) (hm : hi ≤ m) : Chain RO w sz g lo m cs xs := by
  induction k with
  | nil h => exact .nil (by omega)
  | cons h1 h2 hl hg hr hs ih => exact .cons h1 h2 hl hg hr (ih hm)
theorem Chain.append (k : Chain RO w sz g lo m cs xs) (j : Chain RO w sz g m hi ds ys) : Chain RO w sz g lo hi (cs ++ ds) (xs ++ ys) := by
  induction k with
  | nil h => exact j.low h
  | cons h1 h2 hl hg hr hs ih => exact .cons h1 h2 hl hg hr (ih j)
theorem Chain.enc (hG : GdO RO R) (hg : Gd R) (k : Chain RO w sz g lo hi cs xs) : EncL (R w fun b => lo ≤ b ∧ b < hi ∧ g ≠ some b) sz cs.flatten xs := by
  induction k with
  | nil h => exact .nil
  | @cons lo l h hi c x cs xs h1 h2 hl hg' hr hs ih =>
    have := hs.le
    rw [List.flatten_cons]
    exact .cons hl (hg.wide (hG.rd hr) fun b hb _ => ⟨Nat.le_trans h1 hb.1, Nat.lt_of_lt_of_le hb.2 this, fun e => by have := hg' b e; have := hb.1; have := hb.2; omega⟩) (ih.mono fun c x hx => hg.wide hx fun b hb _ => ⟨by have := hb.1; omega, hb.2.1, hb.2.2⟩)
theorem Chain.ones (hG : GdO RO R) (k : Chain RO w sz g lo hi cs xs) : ∀ u ∈ cs.flatten, u.oneCell' = true := by
  induction k with
  | nil h => intro u hu; cases hu
  | @cons lo l h hi c x cs xs h1 h2 hl hg' hr hs ih =>
    intro u hu
    rw [List.flatten_cons] at hu
    rcases List.mem_append.1 hu with hu | hu
    · exact List.all_eq_true.1 (hG.one hr) u hu
    · exact ih u hu
theorem Chain.len (k : Chain RO w sz g lo hi cs xs) : cs.flatten.length = xs.length * sz := by
  induction k with
  | nil h => simp
  | cons h1 h2 hl hg' hr hs ih => rw [List.flatten_cons, List.length_append, hl, ih, List.length_cons, Nat.add_mul]; omega
theorem Chain.open (k : Chain RO w sz g lo hi cs xs) : ∀ {i : Nat} (d : α), i < xs.length → ∃ l h c, lo ≤ l ∧ l ≤ h ∧ h ≤ hi ∧ (∀ k, g = some k → k < l ∨ h ≤ k) ∧ RO w l h c (xs.getD i d) ∧ c.length = sz ∧ ChainX RO w sz g l h c i lo hi cs xs := by
  induction k with
  | nil h => intro i d hi; simp at hi
  | @cons lo l h hi c x cs xs h1 h2 hl hg' hr hs ih =>
    intro i d hi
    have hle := hs.le
    cases i with
    | zero => exact ⟨l, h, c, h1, h2, hle, hg', hr, hl, .here h1 h2 hl hg' hs⟩
    | succ i =>
      obtain ⟨l', h', c', a1, a2, a3, a4, a5, a6, a7⟩ := ih (i := i) d (by simpa using hi)
      exact ⟨l', h', c', by omega, a2, a3, a4, by simpa using a5, a6, .there h1 h2 hl hg' hr a7⟩
theorem ChainX.keep (hG : GdO RO R) (k : ChainX RO w sz g l h c i lo hi cs xs) (hk : ∀ b, lo ≤ b → b < hi → g ≠ some b → (b < l ∨ h ≤ b) → b < w.heap.size → w'.heap[b]? = w.heap[b]?) : lo ≤ l ∧ ChainX RO w' sz g l h c i lo hi cs xs := by
  induction k with
  | here h1 h2 hl hg hs =>
    have := hs.le
    exact ⟨h1, .here h1 h2 hl hg (hs.keep hG fun b hb1 hb2 hb3 hb4 => hk b (by omega) hb2 hb3 (.inr hb1) hb4)⟩
  | @there i lo l' h' hi c' x cs xs h1 h2 hl hg hr hs ih =>
    have hle : h' ≤ hi := by
      have : ∀ {i lo hi : Nat} {cs : List (List Value)} {xs : List α}, ChainX RO w sz g l h c i lo hi cs xs → lo ≤ hi := by
        intro i lo hi cs xs k
        induction k with
        | here h1 h2 _ _ hs => have := hs.le; omega
        | there h1 h2 _ _ _ _ ih => omega
      exact this hs
    obtain ⟨a, b⟩ := ih fun b hb1 hb2 hb3 hb4 hb5 => hk b (by omega) hb2 hb3 hb4 hb5
    exact ⟨by omega, .there h1 h2 hl hg (hG.keep hr fun b hb1 hb2 hb3 => hk b (by omega) (by omega) (fun e => by have := hg b e; omega) (by omega) hb3) b⟩
theorem ChainX.close (k : ChainX RO w sz g l h c i lo hi cs xs) {x : α} (hr : RO w l h c x) : Chain RO w sz g lo hi cs (xs.set i x) := by
  induction k with
  | here h1 h2 hl hg hs => exact .cons h1 h2 hl hg hr hs
  | there h1 h2 hl hg hr' hs ih => exact .cons h1 h2 hl hg hr' ih
theorem splice_here {c cs : List Value} (d : Nat) (vs : List Value) (hd : d + vs.length ≤ c.length) : splice (c ++ cs) d vs = splice c d vs ++ cs := by
  simp only [splice, List.take_append, List.drop_append, List.append_assoc]
  rw [show d - c.length = 0 by omega, show d + vs.length - c.length = 0 by omega]
  simp
theorem splice_there {c cs : List Value} (d : Nat) (vs : List Value) (hd : c.length ≤ d) : splice (c ++ cs) d vs = c ++ splice cs (d - c.length) vs := by
  simp only [splice, List.take_append, List.drop_append, List.append_assoc]
  rw [List.take_of_length_le (by omega), List.drop_eq_nil_of_le (by omega), show d + vs.length - c.length = d - c.length + vs.length by omega]
  simp
theorem ChainX.put (k : ChainX RO w sz g l h c i lo hi cs xs) {d : Nat} {vs : List Value} (hd : d + vs.length ≤ sz) : ∃ cs', cs'.flatten = splice cs.flatten (i * sz + d) vs ∧ ChainX RO w sz g l h (splice c d vs) i lo hi cs' xs := by
  induction k with
  | @here lo hi x cs xs h1 h2 hl hg hs =>
    refine ⟨splice c d vs :: cs, ?_, .here h1 h2 (by rw [splice_length (by omega), hl]) hg hs⟩
    rw [List.flatten_cons, List.flatten_cons, Nat.zero_mul, Nat.zero_add, splice_here _ _ (by omega)]
  | @there i lo l' h' hi c' x cs xs h1 h2 hl hg hr hs ih =>
    obtain ⟨cs', e, k⟩ := ih
    refine ⟨c' :: cs', ?_, .there h1 h2 hl hg hr k⟩
    rw [List.flatten_cons, List.flatten_cons, e, Nat.add_mul, Nat.one_mul, splice_there _ _ (by omega)]
    congr 2
    omega
theorem ChainX.at (k : ChainX RO w sz g l h c i lo hi cs xs) : ∀ j v, c[j]? = some v → cs.flatten[i * sz + j]? = some v := by
  induction k with
  | @here lo hi x cs xs h1 h2 hl hg hs =>
    intro j v hv
    rw [List.flatten_cons, Nat.zero_mul, Nat.zero_add, List.getElem?_append_left (by
      rcases Nat.lt_or_ge j c.length with h | h
      · exact h
      · rw [List.getElem?_eq_none h] at hv; cases hv)]
    exact hv
  | @there i lo l' h' hi c' x cs xs h1 h2 hl hg hr hs ih =>
    intro j v hv
    rw [List.flatten_cons, List.getElem?_append_right (by rw [Nat.add_mul]; omega)]
    have := ih j v hv
    rw [← this]
    congr 1
    rw [Nat.add_mul]; omega
theorem ChainX.size (k : ChainX RO w sz g l h c i lo hi cs xs) : cs.flatten.length = xs.length * sz ∧ i < xs.length ∧ c.length = sz ∧ lo ≤ hi ∧ lo ≤ l ∧ h ≤ hi ∧ l ≤ h ∧ (∀ k, g = some k → k < l ∨ h ≤ k) := by
  induction k with
  | here h1 h2 hl hg hs => exact ⟨by rw [List.flatten_cons, List.length_append, hl, hs.len, List.length_cons, Nat.add_mul]; omega, by simp, hl, by have := hs.le; omega, h1, hs.le, h2, hg⟩
  | there h1 h2 hl hg hr hs ih => obtain ⟨a, b, b', b'', b3, b4, b5, b6⟩ := ih; exact ⟨by rw [List.flatten_cons, List.length_append, hl, a, List.length_cons, Nat.add_mul]; omega, by simpa using b, b', by omega, by omega, b4, b5, b6⟩
end
def OwnD {α : Type} (w : World) (lo hi E sz : Nat) (RO : RelO α) (A : Option Addr) (n c : Nat) (xs : List α) : Prop :=
  n = xs.length ∧ ((n = 0 ∧ c = 0) ∨ ∃ cells : List (List Value), Own w lo E sz A n c cells.flatten ∧ (∀ k, blk A = some k → lo ≤ k ∧ k < hi) ∧ Chain RO w sz (blk A) lo hi cells xs)
def OwnR {α : Type} (w : World) (lo hi E sz : Nat) (RO : RelO α) (A : Option Addr) (n c : Nat) (xs : List α) (i l h : Nat) (e : List Value) : Prop :=
  n = xs.length ∧ ∃ cells : List (List Value), Own w lo E sz A n c cells.flatten ∧ (∀ k, blk A = some k → lo ≤ k ∧ k < hi) ∧ ChainX RO w sz (blk A) l h e i lo hi cells xs
section
variable {α : Type} {RO : RelO α} {R : Rel α} {w w' : World} {lo hi E sz n c i l h h' : Nat} {A : Option Addr} {xs ys : List α} {e : List Value}
theorem OwnD.len (h : OwnD w lo hi E sz RO A n c xs) : n = xs.length := h.1
theorem OwnD.fix (h : OwnD w lo hi E sz RO A n c xs) : OwnD w lo hi E sz RO A xs.length c xs := by
  obtain rfl := h.1
  exact h
theorem OwnD.nil (w : World) (lo hi E sz : Nat) (RO : RelO α) : OwnD w lo hi E sz RO none 0 0 [] := ⟨rfl, .inl ⟨rfl, rfl⟩⟩
theorem OwnD.empty (w : World) (lo hi E sz : Nat) (RO : RelO α) (A : Option Addr) : OwnD w lo hi E sz RO A 0 0 [] := ⟨rfl, .inl ⟨rfl, rfl⟩⟩
theorem OwnD.own (hG : GdO RO R) (hg : Gd R) (h : OwnD w lo hi E sz RO A n c xs) : OwnL w lo hi E sz R A n c xs := by
  refine ⟨h.1, h.2.imp id fun ⟨cells, ho, hb, hc⟩ => ⟨hb, fun b => lo ≤ b ∧ b < hi ∧ blk A ≠ some b, _, ho, hc.enc hG hg, fun k hk hh => hh.2.2 hk, fun b hb => ⟨hb.1, hb.2.1⟩⟩⟩
theorem OwnD.keep (hG : GdO RO R) (h : OwnD w lo hi E sz RO A n c xs) (hk : ∀ b, lo ≤ b → b < hi → b < w.heap.size → w'.heap[b]? = w.heap[b]?) : OwnD w' lo hi E sz RO A n c xs := by
  refine ⟨h.1, h.2.imp id fun ⟨cells, ho, hb, hc⟩ => ⟨cells, ho.keep fun k e => ?_, hb, hc.keep hG fun b h1 h2 _ h3 => hk b h1 h2 h3⟩⟩
  obtain ⟨_, _, hf⟩ := ho.form
  obtain ⟨k1, k2⟩ := hb k e
  rcases hf with ⟨hA, _⟩ | ⟨g', hA, _, hlt⟩
  · subst hA; cases e
  · subst hA
    simp only [blk, Option.some.injEq] at e
    subst e
    exact hk _ k1 k2 hlt
theorem OwnD.ex (hG : GdO RO R) (h : OwnD w lo hi E sz RO A n c xs) (e : Ex w w') : OwnD w' lo hi E sz RO A n c xs := h.keep hG fun b _ _ hl => Below.block e b hl
theorem OwnD.only (hG : GdO RO R) {b : Nat} (h : OwnD w lo hi E sz RO A n c xs) (e : Only b w w') (hb : b < lo ∨ hi ≤ b) : OwnD w' lo hi E sz RO A n c xs := h.keep hG fun k h1 h2 _ => e.block k (by omega)
theorem OwnD.grown (hG : GdO RO R) {row : Option Nat} (h : OwnD w lo hi E sz RO A n c xs) (e : w.grownBy w' row) (hb : ∀ k, row = some k → k < lo ∨ hi ≤ k) : OwnD w' lo hi E sz RO A n c xs := h.keep hG fun k h1 h2 h3 => e.block k h3 (fun hh => by have := hb k hh.symm; omega)
theorem OwnD.chg (hG : GdO RO R) {p : Nat → Prop} (h : OwnD w lo hi E sz RO A n c xs) (e : Chg p w w') (hp : ∀ b, b < w.heap.size → p b → b < lo ∨ hi ≤ b) : OwnD w' lo hi E sz RO A n c xs := h.keep hG fun b h1 h2 hl => e.block b hl fun hh => by have := hp b hl hh; omega
theorem OwnD.mut (hG : GdO RO R) {r : List (Nat × Nat)} (h : OwnD w lo hi E sz RO A n c xs) (e : Mut r w w') (hd : ∀ k, InR r k → k < lo ∨ hi ≤ k) : OwnD w' lo hi E sz RO A n c xs :=
  e.carry (F := fun w => OwnD w lo hi E sz RO A n c xs) h (fun _ _ h e => h.ex hG e) (fun _ _ k h e hk => h.only hG e (hd k hk))
theorem OwnD.more {lo' hi' : Nat} (h : OwnD w lo hi E sz RO A n c xs) (hl : lo' ≤ lo) (hh : hi ≤ hi') : OwnD w lo' hi' E sz RO A n c xs :=
  ⟨h.1, h.2.imp id fun ⟨cells, ho, hb, hc⟩ => ⟨cells, ⟨⟨ho.1.1, by
    rcases ho.1.2 with hx | ⟨g, cap, cur, hv, hg, r⟩
    · exact .inl hx
    · exact .inr ⟨g, cap, cur, hv, by omega, r⟩⟩, ho.2⟩, fun k hk => by have := hb k hk; omega, (hc.low hl).high hh⟩⟩
theorem OwnD.of_box {b : Nat} {cells : List (List Value)} (hB : Box w b E cells.flatten) (hlo : lo ≤ b) (hbi : b < hi) (hc : Chain RO w sz (some b) lo hi cells xs) (hn : xs.length ≤ 281474976710656) : OwnD w lo hi E sz RO (some ⟨b, 0, none⟩) xs.length xs.length xs :=
  ⟨rfl, .inr ⟨cells, Own.of_box hB hlo hc.len hn, fun k hk => by simp only [Go.X.blk, Option.some.injEq] at hk; omega, hc⟩⟩
theorem OwnD.open (d : α) (h : OwnD w lo hi E sz RO A n c xs) (hi' : i < n) : ∃ g l h e, A = some ⟨g, 0, none⟩ ∧ (lo ≤ g ∧ g < hi) ∧ g < w.heap.size ∧ (g < l ∨ h ≤ g) ∧ (lo ≤ l ∧ l ≤ h ∧ h ≤ hi) ∧ RO w l h e (xs.getD i d) ∧ OwnR w lo hi E sz RO A n c xs i l h e := by
  obtain ⟨h0, h2⟩ := h
  rcases h2 with ⟨h2, _⟩ | ⟨cells, ho, hb, hc⟩
  · omega
  · obtain ⟨l, h, e, a1, a2, a3, a4, a5, a6, a7⟩ := hc.open d (i := i) (by omega)
    obtain ⟨_, _, hf⟩ := ho.form
    rcases hf with ⟨hA, hn⟩ | ⟨g, hA, hlo, hlt⟩
    · omega
    · subst hA
      exact ⟨g, l, h, e, rfl, hb g rfl, hlt, a4 g rfl, ⟨a1, a2, a3⟩, a5, h0, cells, ho, hb, a7⟩
theorem OwnR.cells {g : Nat} (h : OwnR w lo hi E sz RO (some ⟨g, 0, none⟩) n c xs i l h' e) : Cells w g (0 + i * sz) e := by
  obtain ⟨h0, cells, ho, hb, hc⟩ := h
  intro j v hv
  have := ho.cells (i * sz + j) v (hc.at j v hv)
  simpa [Nat.add_assoc] using this
theorem OwnR.keep (hG : GdO RO R) (h : OwnR w lo hi E sz RO A n c xs i l h' e) (hk : ∀ b, lo ≤ b → b < hi → (b < l ∨ h' ≤ b) → b < w.heap.size → w'.heap[b]? = w.heap[b]?) : OwnR w' lo hi E sz RO A n c xs i l h' e := by
  obtain ⟨h0, cells, ho, hb, hc⟩ := h
  obtain ⟨_, _, _, _, _, _, _, hgl⟩ := hc.size
  refine ⟨h0, cells, ho.keep fun k e => ?_, hb, (hc.keep hG fun b h1 h2 _ h3 h4 => hk b h1 h2 h3 h4).2⟩
  obtain ⟨_, _, hf⟩ := ho.form
  obtain ⟨k1, k2⟩ := hb k e
  have k3 := hgl k e
  rcases hf with ⟨hA, _⟩ | ⟨g', hA, _, hlt⟩
  · subst hA; cases e
  · subst hA
    simp only [blk, Option.some.injEq] at e
    subst e
    exact hk _ k1 k2 k3 hlt
theorem OwnR.ex (hG : GdO RO R) (k : OwnR w lo hi E sz RO A n c xs i l h e) (x : Ex w w') : OwnR w' lo hi E sz RO A n c xs i l h e := k.keep hG fun b _ _ _ hl => Below.block x b hl
theorem OwnR.only (hG : GdO RO R) {b : Nat} (k : OwnR w lo hi E sz RO A n c xs i l h e) (x : Only b w w') (hb : b < lo ∨ hi ≤ b ∨ (l ≤ b ∧ b < h)) : OwnR w' lo hi E sz RO A n c xs i l h e := k.keep hG fun k h1 h2 h3 _ => x.block k (by omega)
theorem OwnR.mut (hG : GdO RO R) {r : List (Nat × Nat)} (k : OwnR w lo hi E sz RO A n c xs i l h e) (x : Mut r w w') (hd : ∀ k, InR r k → k < lo ∨ hi ≤ k ∨ (l ≤ k ∧ k < h)) : OwnR w' lo hi E sz RO A n c xs i l h e :=
  x.carry (F := fun w => OwnR w lo hi E sz RO A n c xs i l h e) k (fun _ _ h e => h.ex hG e) (fun _ _ k h e hk => h.only hG e (hd k hk))
theorem OwnR.close {x : α} (k : OwnR w lo hi E sz RO A n c xs i l h e) (hr : RO w l h e x) : OwnD w lo hi E sz RO A n c (xs.set i x) := by
  obtain ⟨h0, cells, ho, hb, hc⟩ := k
  exact ⟨by rw [List.length_set]; exact h0, .inr ⟨cells, ho, hb, hc.close hr⟩⟩
end
section
variable {α : Type} {P : Program} {o : Oper} {L : List (Nat × Value)} {w : World} {Q : Value → World → Prop} {RO : RelO α} {R : Rel α}
theorem yl_appendD {s x : Operand} {t E lo hi lo2 hi2 sz by_ : Nat} {z : Value} {ag : Bool} {A B : Option Addr} {n c m d : Nat} {xs ys : List α} (hG : GdO RO R) (ht : P.underlying t = some (.slice E)) (hE : tyB P E = some (sz, by_, some z, ag)) (hzs : z.cells.size = sz) (hsz : 0 < sz)
    (ho : o.op = .call { callee := .builtin .append, args := #[s, x], argTypes := #[t, t] }) (hs : opv L s = some (.slice A n c)) (hx : opv L x = some (.slice B m d)) (hown : OwnD w lo hi E sz RO A n c xs) (hsrc : OwnD w lo2 hi2 E sz RO B m d ys)
    (h63 : n + m ≤ 281474976710656) (hb : (n + m) * by_ ≤ 140737488355328) (hlo : lo ≤ hi) (hl2 : hi ≤ lo2) (hi2' : hi2 ≤ w.heap.size) (hle2 : lo2 ≤ hi2)
    (hR : ∀ A' c' w' row, OwnD w' lo w'.heap.size E sz RO A' (xs ++ ys).length c' (xs ++ ys) → w.grownBy w' row → (∀ k, row = some k → lo ≤ k ∧ k < hi) → Q (.slice A' (xs ++ ys).length c') w') : Yl P o L w Q := by
  obtain ⟨h1, h2⟩ := hown
  obtain ⟨m1, m2⟩ := hsrc
  have hl : n + m = (xs ++ ys).length := by rw [List.length_append, h1, m1]
  -- what is appended
  have hsr : ∃ news : List (List Value), Src w sz B m news.flatten ∧ ∃ gB, (∀ k, gB = some k → lo2 ≤ k ∧ k < hi2) ∧ Chain RO w sz gB lo2 hi2 news ys := by
    rcases m2 with ⟨m0, _⟩ | ⟨cells, hbo, hbb, hbc⟩
    · have : ys = [] := List.eq_nil_of_length_eq_zero (by omega)
      subst this
      exact ⟨[], .inl ⟨m0, rfl⟩, none, fun k h => (by cases h), Chain.nil hle2⟩
    · refine ⟨cells, ?_, blk B, hbb, hbc⟩
      obtain ⟨_, _, hf⟩ := hbo.form
      rcases hf with ⟨hB, h0⟩ | ⟨g, hB, _, _⟩
      · have : ys = [] := List.eq_nil_of_length_eq_zero (by omega)
        subst this
        refine .inl ⟨h0, ?_⟩
        cases hbc; rfl
      · subst hB
        exact .inr ⟨g, 0, rfl, by rw [hbc.len, m1], hbo.cells⟩
  obtain ⟨news, hsr, gB, hgB, hcy⟩ := hsr
  have hone := hcy.ones hG
  rcases h2 with ⟨hn0, hc0⟩ | ⟨cells, hown, hbA, hcx⟩
  · have hx0 : xs = [] := List.eq_nil_of_length_eq_zero (by rw [← h1, hn0])
    subst hx0; subst hn0; subst hc0
    rw [List.nil_append] at hR
    rw [Nat.zero_add] at h63 hb
    refine yl_append0 ht hE hzs hsz ho hs hx hsr hone h63 hb (by omega : lo ≤ w.heap.size) (fun hm0 => ?_) fun hmp A' c' w' hown' hgr hA' => ?_
    · have hy0 : ys = [] := List.eq_nil_of_length_eq_zero (by rw [← m1, hm0])
      subst hy0
      exact hR A 0 w none (OwnD.empty _ _ _ _ _ _ _) ⟨rfl, rfl, rfl, Nat.le_refl _, fun _ _ _ => rfl⟩ (fun k h => by cases h)
    · rw [m1] at hown' ⊢
      have hsz' := hgr.size
      have hlt : w.heap.size < w'.heap.size := by
        obtain ⟨_, _, hf⟩ := hown'.form
        rcases hf with ⟨_, h0⟩ | ⟨g, hA2, _, hlt⟩
        · omega
        · rw [hA2] at hA'; simp only [blk, Option.some.injEq] at hA'; omega
      refine hR A' c' w' none ⟨rfl, .inr ⟨news, hown', fun k hk => ?_, ?_⟩⟩ hgr (fun k h => by cases h)
      · rw [hA'] at hk; simp only [Option.some.injEq] at hk; omega
      · refine (((hcy.keep hG fun b _ _ _ hb => hgr.block b hb (by intro h; cases h)).other (g' := blk A') fun k hk => ?_).low (by omega)).high (by omega)
        rw [hA'] at hk; simp only [Option.some.injEq] at hk; omega
  · have hbA' : ∀ k, blk A = some k → k < w.heap.size := fun k hk => by
      obtain ⟨_, _, hf⟩ := hown.form
      rcases hf with ⟨hA, _⟩ | ⟨g, hA, _, hlt⟩
      · subst hA; cases hk
      · subst hA; simp only [blk, Option.some.injEq] at hk; omega
    refine yl_append ht hE hzs hsz ho hs hx hown hsr hone h63 hb (by omega) fun A' c' w' hown' hgr hA' => ?_
    rw [hl] at hown' ⊢
    have hsz' := hgr.size
    have kx : Chain RO w' sz (blk A) lo hi cells xs := hcx.keep hG fun b _ _ h3 hb => hgr.block b hb (fun hh => h3 hh.symm)
    have ky : Chain RO w' sz gB lo2 hi2 news ys := hcy.keep hG fun b h1 h2 _ hb => hgr.block b hb (fun hh => by have := hbA b hh.symm; omega)
    have hfl : (cells ++ news).flatten = cells.flatten ++ news.flatten := List.flatten_append
    refine hR A' c' w' _ ⟨rfl, .inr ⟨cells ++ news, by rw [hfl]; exact hown', fun k hk => ?_, ?_⟩⟩ hgr hbA
    · obtain ⟨_, _, hf⟩ := hown'.form
      rcases hf with ⟨hA2, _⟩ | ⟨g, hA2, hg1, hlt⟩
      · subst hA2; cases hk
      · subst hA2; simp only [blk, Option.some.injEq] at hk; omega
    · rcases hA' with hA' | hA'
      · subst hA'
        exact (kx.append ((ky.other (g' := blk A') fun k hk => by have := hbA k hk; omega).low hl2)).high (by omega)
      · subst hA'
        exact ((kx.other (g' := blk (some ⟨w.heap.size, 0, none⟩)) fun k hk => by simp only [blk, Option.some.injEq] at hk; omega).append ((ky.other (g' := blk (some ⟨w.heap.size, 0, none⟩)) fun k hk => by simp only [blk, Option.some.injEq] at hk; omega).low hl2)).high (by omega)
end
end Go.X
