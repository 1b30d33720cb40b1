/- '[]byte(s)' of a string, and a store into it: the row of a conversion is marked beyond its last cell. -/
import Derived.Test.YtdhfokkkpcelpaaGreatDoorE32
import Derived.Lib.ConvBytes
import Derived.Lib.FrozenHead
import Derived.Laws.AppendOwn
set_option linter.unusedVariables false
set_option linter.unusedSimpArgs false
namespace Go.X
open Go.RowKit
def Cv (w : World) (b : Nat) (E : TypeId) (xs : List Int) : Prop :=
  ∃ (rest : List Value) (z : Nat), w.heap[b]? = some (.cells (xs.map (Value.int .u8) ++ rest).toArray E (z, z + 1)) ∧ xs.length ≤ z
theorem OwnV.only {α : Type} {R : Rel α} {RO : RelO α} {w w' : World} {lo hi E sz n c i : Nat} {A : Option Addr} {xs : List α} {b : Nat} {v : Nat × Nat} {e : List Value} (hG : GdO RO R) (h : OwnV w lo hi E sz RO A n c xs i v e) (x : Only b w w') (hb : b < lo ∨ hi ≤ b ∨ (v.1 ≤ b ∧ b < v.2)) : OwnV w' lo hi E sz RO A n c xs i v e :=
  h.keep hG fun k h1 h2 h3 _ => x.block k (by omega)
section
variable {P : Program} {o : Oper} {L : List (Nat × Value)} {w w' : World} {R : Value → World → Prop} {b c : Nat} {E : TypeId} {xs : List Int}
theorem Cv.lt (h : Cv w b E xs) : b < w.heap.size := by
  obtain ⟨r, z, h, _⟩ := h
  rcases Nat.lt_or_ge b w.heap.size with hlt | hge
  · exact hlt
  · rw [Array.getElem?_eq_none hge] at h; cases h
theorem Cv.ex (h : Cv w b E xs) (e : Ex w w') : Cv w' b E xs := by
  have hb := h.lt
  obtain ⟨r, z, h, k⟩ := h
  exact ⟨r, z, (Below.block e b hb).trans h, k⟩
theorem Cv.rd (h : Cv w b E xs) (h1 : xs.length ≤ c) (h2 : c ≤ maxLen) (h3 : xs.length ≤ 281474976710656) : RdS w (Iv b w.heap.size) (RF e_U8) 1 (some ⟨b, 0, none⟩) xs.length c xs := by
  have hb := h.lt
  obtain ⟨r, z, h, k⟩ := h
  refine ⟨rfl, h1, ⟨h2, h3⟩, xs.map (Value.int .u8), ?_, .inr ⟨b, 0, rfl, ?_, hb, ?_⟩⟩
  · clear h1 h3 h k
    induction xs with
    | nil => exact EncL.nil
    | cons x xs ih => exact EncL.cons (c := [Value.int .u8 x]) rfl rfl ih
  · exact ⟨Nat.le_refl _, hb⟩
  · intro j u hu
    rw [Nat.zero_add]
    have hj : j < (xs.map (Value.int .u8)).length := by
      rcases Nat.lt_or_ge j (xs.map (Value.int .u8)).length with hlt | hge
      · exact hlt
      · rw [List.getElem?_eq_none hge] at hu; cases hu
    simp only [World.cell?, h, List.getElem?_toArray]
    rw [List.getElem?_append_left hj]
    exact hu
end
end Go.X
