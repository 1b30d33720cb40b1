/- Elements that nobody looks into: a list of them is a list of numbers, cl tells each number's cell; a change of one block as a step of Mut. -/
import Derived.Test.YtdhfokkkpcelpaaGreatDoorE33
set_option linter.unusedVariables false
set_option linter.unusedSimpArgs false
namespace Go.X
open Go.RowKit
def e_Opq (cl : Nat → Value) (i : Nat) : List Value := [cl i]
def d_Opq : Nat := 0
section
variable {cl : Nat → Value}
theorem good_Opq (hcl : ∀ i, (cl i).oneCell' = true) : Gd (RF (e_Opq cl)) := RF.good fun x => by simp [e_Opq, hcl]
theorem all_Opq (hcl : ∀ i, (cl i).oneCell' = true) (i : Nat) : ([cl i] : List Value).all Value.oneCell' = true := by simp [hcl]
end
theorem OwnL.ren {α : Type} {R : Rel α} {w : World} {lo hi E sz n n' c : Nat} {A : Option Addr} {xs : List α} (e : n = n') (h : OwnL w lo hi E sz R A n' c xs) : OwnL w lo hi E sz R A n c xs := by rw [e]; exact h
theorem Mut.of_chg1 {l : List (Nat × Nat)} {w w' : World} {b : Nat} (h : Chg (fun k => k = b) w w') (hb : b < w.heap.size) (hr : InR l b) : Mut l w w' := by
  have hs := h.size
  have hb' : b < w'.heap.size := by omega
  let w1 : World := { w with heap := w.heap.setIfInBounds b (w'.heap[b]) }
  have h1 : Only b w w1 := ⟨rfl, rfl, rfl, by show (w.heap.setIfInBounds b _).size = _; simp, fun k hk => by
    show (w.heap.setIfInBounds b _)[k]? = _
    rw [Array.getElem?_setIfInBounds]
    rw [if_neg (fun e => hk e.symm)]⟩
  have h2 : Ex w1 w' := ⟨h.os, h.tape, h.output, by show (w.heap.setIfInBounds b _).size ≤ _; simp; omega, fun k hk => by
    have hk' : k < w.heap.size := by
      have e : w1.heap.size = w.heap.size := by show (w.heap.setIfInBounds b _).size = _; simp
      omega
    show _ = (w.heap.setIfInBounds b _)[k]?
    rw [Array.getElem?_setIfInBounds]
    by_cases e : b = k
    · subst e
      rw [if_pos rfl, if_pos hb, Array.getElem?_eq_getElem hb']
    · rw [if_neg e]
      exact h.block k hk' (fun e2 => e e2.symm)⟩
  exact Mut.ex (Mut.only (Mut.refl w) h1 hr) h2
end Go.X
