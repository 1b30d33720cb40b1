/- Lists whose elements change places: where the list's block lies after an append; an element that is read keeps off the list's own block. -/
import Derived.Test.YtdhfokkkpcelpaaGreatDoorE26
set_option linter.unusedVariables false
set_option linter.unusedSimpArgs false
namespace Go.X
open Go.RowKit
section
variable {α : Type} {P : Program} {o : Oper} {L : List (Nat × Value)} {w : World} {Q : Value → World → Prop} {R : Rel α}
def IvN (lo hi : Nat) (A : Option Addr) (b : Nat) : Prop := lo ≤ b ∧ b < hi ∧ blk A ≠ some b
theorem OwnL.atN {lo hi E sz n c : Nat} {A : Option Addr} {xs : List α} (hg : Gd R) (h : OwnL w lo hi E sz R A n c xs) (d : α) {i : Nat} (hi' : i < n) :
    ∃ b off cs, A = some ⟨b, off, none⟩ ∧ (lo ≤ b ∧ b < hi) ∧ b < w.heap.size ∧ cs.length = sz ∧ R w (IvN lo hi A) cs (xs.getD i d) ∧ Cells w b (off + i * sz) cs := by
  obtain ⟨e1, -⟩ := id h
  obtain ⟨e2, S, cells, hown, he, h3, h4⟩ := h.full hi'
  obtain ⟨f1, f2, hf⟩ := hown.form
  rcases hf with ⟨_, h0⟩ | ⟨g, hA, hlo, hlt⟩
  · omega
  subst hA
  obtain ⟨rest, hB, hr, hnc, hcm, hlo2⟩ := hown.box
  have hil : i < xs.length := by omega
  obtain ⟨hl, hR⟩ := he.at hil
  have hcl := he.length
  have hm : i * sz + sz ≤ xs.length * sz := by have := Nat.mul_le_mul_right sz hil; rw [Nat.succ_mul] at this; omega
  refine ⟨g, 0, _, rfl, e2 g rfl, hlt, hl, ?_, ?_⟩
  · rw [getD_eq hil]
    exact hg.wide hR fun b hb _ => ⟨(h4 b hb).1, (h4 b hb).2, fun e => h3 b e hb⟩
  · rw [Nat.zero_add]
    exact hB.cells (o := i * sz) (n := sz) (by rw [List.drop_append_of_le_length (by omega), List.take_append_of_le_length (by rw [List.length_drop]; omega)])
end
end Go.X
