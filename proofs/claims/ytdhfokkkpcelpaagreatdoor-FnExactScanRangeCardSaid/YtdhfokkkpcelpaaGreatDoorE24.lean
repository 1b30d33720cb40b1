/- A list made with its length, whose elements own memory, while it is filled from its first place on. -/
import Derived.Test.YtdhfokkkpcelpaaGreatDoorE23
set_option linter.unusedVariables false
set_option linter.unusedSimpArgs false
namespace Go.X
open Go.RowKit
def OwnK {α : Type} (w : World) (lo hi E sz : Nat) (RO : RelO α) (A : Option Addr) (n : Nat) (z : List Value) (ys : List α) : Prop :=
  ys.length ≤ n ∧ z.length = sz ∧ ∃ cells : List (List Value), Own w lo E sz A n n (cells.flatten ++ zeros z (n - ys.length)) ∧ (∀ k, blk A = some k → lo ≤ k ∧ k < hi) ∧ Chain RO w sz (blk A) lo hi cells ys
section
variable {α : Type} {RO : RelO α} {R : Rel α} {w w' : World} {lo hi E sz n : Nat} {A : Option Addr} {z : List Value} {ys : List α}
theorem OwnK.of_box {b : Nat} (hB : Box w b E (zeros z n)) (hz : z.length = sz) (hn : n ≤ 281474976710656) : OwnK w b (b + 1) E sz RO (some ⟨b, 0, none⟩) n z ([] : List α) :=
  ⟨Nat.zero_le _, hz, [], Own.of_box hB (Nat.le_refl _) (by show (zeros z n).length = _; rw [zeros_length, hz]) hn, fun k hk => by simp only [blk, Option.some.injEq] at hk; omega, .nil (Nat.le_succ _)⟩
theorem OwnK.keep (hG : GdO RO R) (h : OwnK w lo hi E sz RO A n z ys) (hk : ∀ b, lo ≤ b → b < hi → b < w.heap.size → w'.heap[b]? = w.heap[b]?) : OwnK w' lo hi E sz RO A n z ys := by
  obtain ⟨h1, h2, cells, ho, hb, hc⟩ := h
  refine ⟨h1, h2, cells, ho.keep fun k e => ?_, hb, hc.keep hG fun b h1 h2 _ h3 => hk b h1 h2 h3⟩
  obtain ⟨_, _, hf⟩ := ho.form
  obtain ⟨k1, k2⟩ := hb k e
  rcases hf with ⟨hA, _⟩ | ⟨g', hA, _, hlt⟩
  · subst hA; cases e
  · subst hA; simp only [blk, Option.some.injEq] at e; exact hk k k1 k2 (e ▸ hlt)
theorem OwnK.ex (hG : GdO RO R) (h : OwnK w lo hi E sz RO A n z ys) (e : Ex w w') : OwnK w' lo hi E sz RO A n z ys := h.keep hG fun b _ _ hl => Below.block e b hl
theorem OwnK.done (h : OwnK w lo hi E sz RO A n z ys) (hn : ys.length = n) : OwnD w lo hi E sz RO A n n ys := by
  obtain ⟨h1, h2, cells, ho, hb, hc⟩ := h
  rw [hn, Nat.sub_self, show zeros z 0 = [] from rfl, List.append_nil] at ho
  exact ⟨hn.symm, .inr ⟨cells, ho, hb, hc⟩⟩
variable {P : Program} {o : Oper} {L : List (Nat × Value)} {Q : Value → World → Prop}
end
end Go.X
