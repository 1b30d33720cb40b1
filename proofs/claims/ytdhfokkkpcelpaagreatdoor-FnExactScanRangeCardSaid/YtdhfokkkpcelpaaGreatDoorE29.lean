/- Lists of flat elements: cells by a plain function; copy, cap, an append of zero values, slices.overlaps; what an insertion leaves. -/
import Derived.Test.YtdhfokkkpcelpaaGreatDoorE28
import Derived.Lib.AppendZerosOnto
import Derived.Lib.Overlaps
set_option linter.unusedVariables false
set_option linter.unusedSimpArgs false
namespace Go.X
open Go.RowKit
section
variable {α : Type} {enc : α → List Value} {k : Nat}
end
section
variable {P : Program} {o : Oper} {L : List (Nat × Value)} {w : World} {R : Value → World → Prop}
end
section
variable {α : Type} {enc : α → List Value} {k : Nat}
end
theorem Mut.grown {l : List (Nat × Nat)} {w w1 w2 : World} {row : Option Nat} (h : Mut l w w1) (hg : w1.grownBy w2 row) (hr : ∀ k, row = some k → InR l k) : Mut l w w2 := by
  rcases row with _ | g
  · exact .ex h ⟨hg.os, hg.tape, hg.output, hg.size, fun j hj => hg.block j hj (fun e => by cases e)⟩
  · rcases Nat.lt_or_ge g w1.heap.size with hlt | hge
    · have hlt2 : g < w2.heap.size := Nat.lt_of_lt_of_le hlt hg.size
      refine .ex (.only (w2 := { w1 with heap := w1.heap.set g w2.heap[g] hlt }) h ⟨rfl, rfl, rfl, by simp, fun j hj => ?_⟩ (hr g rfl)) ⟨hg.os, hg.tape, hg.output, by simpa using hg.size, fun j hj => ?_⟩
      · show (w1.heap.set g w2.heap[g] hlt)[j]? = _
        rw [Array.getElem?_set, if_neg (Ne.symm hj)]
      · show _ = (w1.heap.set g w2.heap[g] hlt)[j]?
        have hj' : j < w1.heap.size := by simpa using hj
        rw [Array.getElem?_set]
        split
        · rename_i e; subst e; rw [Array.getElem?_eq_getElem hlt2]
        · rename_i e; exact hg.block j hj' (fun h => e (Option.some.inj h).symm)
    · exact .ex h ⟨hg.os, hg.tape, hg.output, hg.size, fun j hj => hg.block j hj (fun e => by cases e; omega)⟩
theorem Mut.frame {l : List (Nat × Nat)} {w w' : World} (h : Mut l w w') : w'.os = w.os ∧ w'.tape = w.tape ∧ w'.output = w.output ∧ w.heap.size ≤ w'.heap.size ∧ ∀ k, k < w.heap.size → ¬ InR l k → w'.heap[k]? = w.heap[k]? := by
  induction h with
  | refl => exact ⟨rfl, rfl, rfl, Nat.le_refl _, fun _ _ _ => rfl⟩
  | ex _ e ih =>
    obtain ⟨a, b, c, d, f⟩ := ih
    exact ⟨e.os.trans a, e.tape.trans b, e.output.trans c, Nat.le_trans d e.size, fun k hk hn => (e.block k (Nat.lt_of_lt_of_le hk d)).trans (f k hk hn)⟩
  | only _ e hr ih =>
    obtain ⟨a, b, c, d, f⟩ := ih
    exact ⟨e.os.trans a, e.tape.trans b, e.output.trans c, by rw [e.size]; exact d, fun k hk hn => (e.block k (fun h => hn (h ▸ hr))).trans (f k hk hn)⟩
theorem Mut.of_frame {l : List (Nat × Nat)} {w w' : World} (h1 : w'.os = w.os) (h2 : w'.tape = w.tape) (h3 : w'.output = w.output) (h4 : w.heap.size ≤ w'.heap.size) (h5 : ∀ k, k < w.heap.size → ¬ InR l k → w'.heap[k]? = w.heap[k]?) : Mut l w w' := by
  suffices h : ∀ n, n ≤ w.heap.size → ∃ m : World, Mut l w m ∧ m.os = w.os ∧ m.tape = w.tape ∧ m.output = w.output ∧ m.heap.size = w.heap.size ∧ (∀ k, k < n → m.heap[k]? = w'.heap[k]?) ∧ ∀ k, n ≤ k → m.heap[k]? = w.heap[k]? by
    obtain ⟨m, hm, a, b, c, d, e, _⟩ := h w.heap.size (Nat.le_refl _)
    exact .ex hm ⟨h1.trans a.symm, h2.trans b.symm, h3.trans c.symm, by rw [d]; exact h4, fun k hk => (e k (by rw [← d]; exact hk)).symm⟩
  intro n
  induction n with
  | zero => intro _; exact ⟨w, .refl w, rfl, rfl, rfl, rfl, fun k hk => absurd hk (Nat.not_lt_zero _), fun _ _ => rfl⟩
  | succ n ih =>
    intro hn
    obtain ⟨m, hm, a, b, c, d, e, f⟩ := ih (by omega)
    rcases Classical.em (InR l n) with hr | hr
    · have hlt : n < m.heap.size := by omega
      have hlt' : n < w'.heap.size := by omega
      refine ⟨{ m with heap := m.heap.set n w'.heap[n] hlt }, .only (b := n) hm ⟨rfl, rfl, rfl, by simp, fun j hj => ?_⟩ hr, a, b, c, by simp [d], fun k hk => ?_, fun k hk => ?_⟩
      · show (m.heap.set n w'.heap[n] hlt)[j]? = _
        rw [Array.getElem?_set, if_neg (Ne.symm hj)]
      · show (m.heap.set n w'.heap[n] hlt)[k]? = _
        rw [Array.getElem?_set]
        split
        · rename_i h; subst h; rw [Array.getElem?_eq_getElem hlt']
        · rename_i h; exact e k (by omega)
      · show (m.heap.set n w'.heap[n] hlt)[k]? = _
        rw [Array.getElem?_set, if_neg (by omega)]; exact f k (by omega)
    · refine ⟨m, hm, a, b, c, d, fun k hk => ?_, fun k hk => f k (by omega)⟩
      rcases Nat.lt_or_ge k n with hlt | hge
      · exact e k hlt
      · obtain rfl : k = n := by omega
        rw [f k (Nat.le_refl _), h5 k (by omega) hr]
theorem Mut.new {l : List (Nat × Nat)} {w w1 w2 : World} {b : Nat} (h : Mut l w w1) (e : Only b w1 w2) (hb : InR l b ∨ w.heap.size ≤ b) : Mut l w w2 := by
  rcases hb with hb | hb
  · exact .only h e hb
  · obtain ⟨a1, a2, a3, a4, a5⟩ := h.frame
    exact .of_frame (e.os.trans a1) (e.tape.trans a2) (e.output.trans a3) (by rw [e.size]; exact a4) fun k hk hn => (e.block k (by omega)).trans (a5 k hk hn)
end Go.X
