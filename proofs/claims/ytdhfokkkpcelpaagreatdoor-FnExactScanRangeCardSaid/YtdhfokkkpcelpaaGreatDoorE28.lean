/- What a world holds of the two errors and of the table of powers of ten. -/
import Derived.Test.YtdhfokkkpcelpaaGreatDoorE27
import Derived.Lib.AtoiAll
import Derived.Lib.ItoaNum
set_option linter.unusedVariables false
set_option linter.unusedSimpArgs false
namespace Go.X
open Go.RowKit
def TabW (g : Nat) (a : Array Value) (w : World) : Prop := ∃ T z, w.heap[g]? = some (.cells a T z)
def p10 : List Int := (List.range 20).map fun i => ((10 ^ i : Nat) : Int)
def GT (g1 g2 g3 : Nat) (w : World) : Prop := GB g1 g2 w ∧ TabW g3 (p10.map fun z => Value.int .u64 z).toArray w
theorem TabW.ex {g : Nat} {a : Array Value} {w w' : World} (h : TabW g a w) (e : Ex w w') : TabW g a w' := by
  obtain ⟨T, z, h⟩ := h
  have hlt : g < w.heap.size := by
    rcases Nat.lt_or_ge g w.heap.size with hlt | hge
    · exact hlt
    · rw [Array.getElem?_eq_none hge] at h; cases h
  obtain ⟨_, _, _, _, h5⟩ := e
  exact ⟨T, z, (h5 g hlt).trans h⟩
theorem GT.ex {g1 g2 g3 : Nat} {w w' : World} (h : GT g1 g2 g3 w) (e : Ex w w') : GT g1 g2 g3 w' := ⟨h.1.ex e, h.2.ex e⟩
end Go.X
