/- What a world holds of the two errors that a text read as a number may end in. -/
import Derived.Test.YtdhfokkkpcelpaaGreatDoorE24
set_option linter.unusedVariables false
set_option linter.unusedSimpArgs false
namespace Go.X
open Go.RowKit
def ErrVar (g : Nat) (w : World) : Prop := ∃ ev, w.cell? ⟨g, 0, none⟩ = some ev ∧ (ev = .nilIface ∨ ∃ te pe, ev = .iface te pe)
def GB (g1 g2 : Nat) (w : World) : Prop := ErrVar g1 w ∧ ErrVar g2 w
theorem cell_lt {w : World} {a : Addr} {v : Value} (h : w.cell? a = some v) : a.block < w.heap.size := by
  rcases Nat.lt_or_ge a.block w.heap.size with hlt | hge
  · exact hlt
  · unfold World.cell? at h; rw [Array.getElem?_eq_none hge] at h; cases h
theorem ErrVar.ex {g : Nat} {w w' : World} (h : ErrVar g w) (e : Ex w w') : ErrVar g w' := by
  obtain ⟨ev, h1, h2⟩ := h
  exact ⟨ev, (Below.cell (p := ⟨g, 0, none⟩) e (cell_lt h1)).trans h1, h2⟩
theorem GB.ex {g1 g2 : Nat} {w w' : World} (h : GB g1 g2 w) (e : Ex w w') : GB g1 g2 w' := ⟨h.1.ex e, h.2.ex e⟩
end Go.X
