/- A list made with its length, whose elements own memory, while it is filled from its first place on. -/
import Derived.Test.YtbglfhmnjbgciaaE23
set_option linter.unusedVariables false
set_option linter.unusedSimpArgs false
namespace Go.X
open Go.RowKit
def OwnK {α : Type} (w : World) (lo hi E sz : Nat) (RO : RelO α) (A : Option Addr) (n : Nat) (z : List Value) (ys : List α) : Prop :=
  ys.length ≤ n ∧ z.length = sz ∧ ∃ cells : List (List Value), Own w lo E sz A n n (cells.flatten ++ zeros z (n - ys.length)) ∧ (∀ k, blk A = some k → lo ≤ k ∧ k < hi) ∧ Chain RO w sz (blk A) lo hi cells ys
section
variable {α : Type} {RO : RelO α} {R : Rel α} {w w' : World} {lo hi E sz n : Nat} {A : Option Addr} {z : List Value} {ys : List α}
theorem OwnK.of_box {b : Nat} (hB : Box w b E (zeros z n)) (hz : z.length = sz) (hn : n ≤ 281474976710656) : OwnK w b (b + 1) E sz RO (some ⟨b, 0, none⟩) n z ([] : List α) :=
  ⟨Nat.zero_le _, hz, [], Own.of_box hB (Nat.le_refl _) (by show (zeros z n).length = _; rw [zeros_length, hz]) hn, fun k hk => by simp only [blk, Option.some.injEq] at hk; omega, .nil (Nat.le_succ _)⟩
theorem OwnK.keep (hG : GdO RO R) (h : OwnK w lo hi E sz RO A n z ys) (hk : ∀ b, lo ≤ b → b < hi → b < w.heap.size → w'.heap[b]? = w.heap[b]?) : OwnK w' lo hi E sz RO A n z ys := by
  obtain ⟨h1, h2, cells, ho, hb, hc⟩ := h
  refine ⟨h1, h2, cells, ho.keep fun k e => ?_, hb, hc.keep hG fun b h1 h2 _ h3 => hk b h1 h2 h3⟩
  obtain ⟨_, _, hf⟩ := ho.form
  obtain ⟨k1, k2⟩ := hb k e
  rcases hf with ⟨hA, _⟩ | ⟨g', hA, _, hlt⟩
  · subst hA; cases e
  · subst hA; simp only [blk, Option.some.injEq] at e; exact hk k k1 k2 (e ▸ hlt)
theorem OwnK.ex (hG : GdO RO R) (h : OwnK w lo hi E sz RO A n z ys) (e : Ex w w') : OwnK w' lo hi E sz RO A n z ys := h.keep hG fun b _ _ hl => Below.block e b hl
theorem OwnK.done (h : OwnK w lo hi E sz RO A n z ys) (hn : ys.length = n) : OwnD w lo hi E sz RO A n n ys := by
  obtain ⟨h1, h2, cells, ho, hb, hc⟩ := h
  rw [hn, Nat.sub_self, show zeros z 0 = [] from rfl, List.append_nil] at ho
  exact ⟨hn.symm, .inr ⟨cells, ho, hb, hc⟩⟩
variable {P : Program} {o : Oper} {L : List (Nat × Value)} {Q : Value → World → Prop}
theorem yl_storeK {x y : Operand} {T by_ g i l h : Nat} {zv : Option Value} {ag : Bool} {v : Value} {vs : List Value} {a : α} (hG : GdO RO R) (hT : tyB P T = some (sz, by_, zv, ag)) (ho : o.op = .store T x y)
    (hown : OwnK w lo hi E sz RO A n z ys) (hA : A = some ⟨g, 0, none⟩) (hi' : ys.length = i) (hlt : i < n) (hx : opv L x = some (.pointer (some ⟨g, 0 + i * sz, none⟩)))
    (hy : opv L y = some v) (hc : v.cells = vs.toArray) (hl : vs.length = sz) (hr : RO w l h vs a) (h1 : hi ≤ l) (h2 : l ≤ h)
    (hQ : ∀ w', OwnK w' lo h E sz RO A n z (ys ++ [a]) → Only g w w' → Q undef w') : Yl P o L w Q := by
  obtain ⟨k1, k2, cells, hown, hb, hch⟩ := hown
  subst hA
  subst hi'
  obtain ⟨g1, g2⟩ := hb g rfl
  have hlen := hch.len
  refine yl_storeOwn hT ho hx hy hc hl (hG.one hr) hown ?_ fun w' hown' hO => hQ w' ⟨?_, k2, cells ++ [vs], ?_, ?_, ?_⟩ hO
  · rw [List.length_append, hlen, zeros_length, k2]
    have : 1 * sz ≤ (n - ys.length) * sz := Nat.mul_le_mul_right _ (by omega)
    omega
  · rw [List.length_append]; exact hlt
  · have e : splice (cells.flatten ++ zeros z (n - ys.length)) (0 + ys.length * sz) vs = (cells ++ [vs]).flatten ++ zeros z (n - (ys ++ [a]).length) := by
      rw [splice_there _ _ (by omega), show n - ys.length = (n - (ys ++ [a]).length) + 1 by rw [List.length_append, List.length_singleton]; omega, show zeros z (n - (ys ++ [a]).length + 1) = z ++ zeros z (n - (ys ++ [a]).length) from rfl]
      rw [splice_here _ _ (by omega), show 0 + ys.length * sz - cells.flatten.length = 0 by omega]
      have e2 : splice z 0 vs = vs := by
        simp only [splice, List.take_zero, List.nil_append]
        rw [List.drop_eq_nil_of_le (by omega), List.append_nil]
      rw [e2]
      simp
    rw [← e]; exact hown'
  · intro k hk
    have := hb k hk; omega
  · have hk2 : Chain RO w' sz (blk (some ⟨g, 0, none⟩)) lo hi cells ys := hch.keep hG fun b _ _ h3 _ => hO.block b fun e => h3 (by rw [e]; rfl)
    have hr2 : RO w' l h vs a := hG.keep hr fun b b1 b2 _ => hO.block b (by omega)
    exact hk2.append (.cons (Nat.le_trans (Nat.le_refl _) h1) h2 hl (fun k hk => .inl (by have := hb k hk; omega)) hr2 (.nil (Nat.le_refl _)))
end
end Go.X
