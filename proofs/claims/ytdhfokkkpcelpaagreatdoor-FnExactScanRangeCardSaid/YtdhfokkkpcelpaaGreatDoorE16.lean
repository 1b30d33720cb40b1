/- Texts that are cut at a byte. -/
import Derived.Test.YtdhfokkkpcelpaaGreatDoorE15
set_option linter.unusedVariables false
set_option linter.unusedSimpArgs false
namespace Go.X
open Go.RowKit
theorem indexByte_split (c : UInt8) : ∀ l : List UInt8, (c ∉ l ∧ Lib.indexByte l c = -1) ∨ ∃ a r, l = a ++ c :: r ∧ c ∉ a ∧ Lib.indexByte l c = (a.length : Int)
  | [] => .inl ⟨by simp, rfl⟩
  | b :: l => by
    unfold Lib.indexByte
    by_cases h : b = c
    · subst h
      exact .inr ⟨[], l, rfl, by simp, by simp⟩
    · have hb : (b == c) = false := by simp [h]
      rcases indexByte_split c l with ⟨h1, h2⟩ | ⟨a, r, h1, h2, h3⟩
      · refine .inl ⟨by simp [h1, Ne.symm h], ?_⟩
        rw [hb, h2]; rfl
      · refine .inr ⟨b :: a, r, by rw [h1]; rfl, by simp [h2, Ne.symm h], ?_⟩
        have h4 : (Lib.indexByte l c == -1) = false := by rw [h3]; simp only [beq_eq_false_iff_ne, ne_eq]; omega
        rw [hb, h4, h3]
        simp only [Bool.false_eq_true, if_false, List.length_cons]; omega
def sp (c : UInt8) : Str → List Str
  | [] => [[]]
  | b :: s => if b = c then [] :: sp c s else ((b :: (sp c s).headD []) :: (sp c s).tail)
theorem sp_ne (c : UInt8) : ∀ s, 0 < (sp c s).length
  | [] => by unfold sp; simp
  | b :: s => by unfold sp; split <;> simp
theorem sp_none {c : UInt8} : ∀ {a : Str}, c ∉ a → sp c a = [a]
  | [], _ => rfl
  | b :: s, h => by
    have h1 : b ≠ c := fun e => h (by simp [e])
    have h2 : c ∉ s := fun e => h (by simp [e])
    unfold sp; rw [if_neg h1, sp_none h2]; rfl
theorem sp_some {c : UInt8} {r : Str} : ∀ {a : Str}, c ∉ a → sp c (a ++ c :: r) = a :: sp c r
  | [], _ => by
    show sp c (c :: r) = _; conv => lhs; unfold sp
    rw [if_pos rfl]
  | b :: s, h => by
    have h1 : b ≠ c := fun e => h (by simp [e])
    have h2 : c ∉ s := fun e => h (by simp [e])
    show sp c (b :: (s ++ c :: r)) = _
    conv => lhs; unfold sp
    rw [if_neg h1, sp_some h2]; rfl
theorem sp_length (c : UInt8) : ∀ s, (sp c s).length ≤ s.length + 1
  | [] => Nat.le_refl _
  | b :: s => by
    have := sp_length c s
    unfold sp
    split
    · rw [List.length_cons, List.length_cons]; omega
    · rw [List.length_cons, List.length_cons, List.length_tail]; omega
theorem sp_mem {c : UInt8} {s x : Str} (h : x ∈ sp c s) : x.length ≤ s.length := by
  induction s generalizing x with
  | nil => rw [show sp c [] = [[]] from rfl, List.mem_singleton] at h; subst h; exact Nat.le_refl _
  | cons b s ih =>
    unfold sp at h
    split at h
    · rcases List.mem_cons.1 h with rfl | h
      · exact Nat.zero_le _
      · rw [List.length_cons]; exact Nat.le_succ_of_le (ih h)
    · rcases List.mem_cons.1 h with rfl | h
      · have h0 := sp_ne c s
        have : (sp c s).headD [] ∈ sp c s := by
          cases hh : sp c s with
          | nil => rw [hh] at h0; exact absurd h0 (Nat.lt_irrefl _)
          | cons y ys => exact List.mem_cons_self ..
        rw [List.length_cons, List.length_cons]; have := ih this; omega
      · rw [List.length_cons]; exact Nat.le_succ_of_le (ih (List.mem_of_mem_tail h))
end Go.X
