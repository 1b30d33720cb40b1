/- A region that draws its order: each operation by itself. -/
import Derived.Test.YtdhfokkkpcelpaaGreatDoorE3
set_option linter.unusedVariables false
set_option linter.unusedSimpArgs false
namespace Go.X
open Go.RowKit
def depsOf (o : Oper) : List Nat := o.after.toList.filterMap fun e => bif Region.binds .any e then some e.on else none
theorem mem_depsOf {o : Oper} {j : Nat} : j ∈ depsOf o ↔ ∃ e ∈ o.after, Region.binds .any e = true ∧ e.on = j := by
  simp only [depsOf, List.mem_filterMap, Array.mem_toList_iff]
  constructor
  · rintro ⟨e, he, h⟩
    by_cases hb : Region.binds .any e = true
    · simp [hb] at h; exact ⟨e, he, hb, h⟩
    · simp [hb] at h
  · rintro ⟨e, he, hb, rfl⟩
    exact ⟨e, he, by simp [hb]⟩
def freeB (i t : Nat) (ops : List Oper) : Bool := ops.all fun o => match o.dst with
  | some d => !Nat.beq d t || (depsOf o).any (Nat.beq i)
  | none => true
def noW (t : Nat) (ops : List Oper) : Bool := ops.all fun o => match o.dst with
  | some d => !Nat.beq d t
  | none => true
def depsLt : Nat → List Oper → Bool
  | _, [] => true
  | i, o :: l => (depsOf o).all (Nat.blt · i) && depsLt (i + 1) l
theorem depsLt_spec {ops : List Oper} : ∀ {k : Nat}, depsLt k ops = true → ∀ i o, ops[i]? = some o → ∀ j ∈ depsOf o, j < k + i := by
  induction ops with
  | nil => intro k _ i o h; simp at h
  | cons o' l ih =>
    intro k h i o hi j hj
    simp only [depsLt, Bool.and_eq_true, List.all_eq_true] at h
    cases i with
    | zero => simp at hi; subst hi; have := h.1 j hj; simpa [Nat.blt_eq] using this
    | succ i => have := ih h.2 i o (by simpa using hi) j hj; omega
def uniqB : List Oper → Bool
  | [] => true
  | o :: l => (match o.dst with | some d => noW d l | none => true) && uniqB l
theorem noW_spec {t : Nat} {ops : List Oper} (h : noW t ops = true) : ∀ o ∈ ops, o.dst ≠ some t := by
  intro o ho hd
  have := List.all_eq_true.1 h o ho
  rw [hd] at this
  simp at this
theorem uniqB_spec {ops : List Oper} (h : uniqB ops = true) : ∀ (i j : Nat) (o o' : Oper) (d : Tmp), ops[i]? = some o → ops[j]? = some o' → o.dst = some d → o'.dst = some d → i = j := by
  induction ops with
  | nil => intro i j o o' d h; simp at h
  | cons p l ih =>
    simp only [uniqB, Bool.and_eq_true] at h
    intro i j o o' d hi hj ho ho'
    cases i with
    | zero =>
      cases j with
      | zero => rfl
      | succ j =>
        simp at hi hj; subst hi
        have h1 := h.1
        rw [ho] at h1
        exact absurd ho' (noW_spec h1 o' (List.mem_of_getElem? hj))
    | succ i =>
      cases j with
      | zero =>
        simp at hi hj; subst hj
        have h1 := h.1
        rw [ho'] at h1
        exact absurd ho (noW_spec h1 o (List.mem_of_getElem? hi))
      | succ j => rw [ih h.2 i j o o' d (by simpa using hi) (by simpa using hj) ho ho']
structure Known (ops : List Oper) (L0 : List (Nat × Value)) (w0 : World) (V : Nat → Value → World → Prop) (i : Nat) (o : Oper) (L : List (Nat × Value)) (w : World) : Prop where
  ex : Ex w0 w
  old : ∀ t v, lkp L0 t = some v → freeB i t ops = true → lkp L t = some v
  dep : ∀ j d, (depsOf o).any (Nat.beq j) = true → (ops[j]?).bind (·.dst) = some d → ∃ v, lkp L d = some v ∧ V j v w
def Hops (P : Program) (ops : List Oper) (L0 : List (Nat × Value)) (w0 : World) (V : Nat → Value → World → Prop) : Nat → List Oper → Prop
  | _, [] => True
  | i, o :: l => (∀ L w, Known ops L0 w0 V i o L w → OpR P ops.toArray o L w fun v w' => V i v w' ∧ Ex w w') ∧ Hops P ops L0 w0 V (i + 1) l
theorem Hops.spec {P : Program} {ops : List Oper} {L0 : List (Nat × Value)} {w0 : World} {V : Nat → Value → World → Prop} : ∀ {l : List Oper} {k : Nat}, Hops P ops L0 w0 V k l → ∀ i o, l[i]? = some o → ∀ L w, Known ops L0 w0 V (k + i) o L w → OpR P ops.toArray o L w fun v w' => V (k + i) v w' ∧ Ex w w'
  | [], _, _, i, o, hi => by simp at hi
  | p :: l, k, h, i, o, hi => by
    cases i with
    | zero => simp at hi; subst hi; exact h.1
    | succ i =>
      have := Hops.spec h.2 i o (by simpa using hi)
      rwa [show k + 1 + i = k + (i + 1) by omega] at this
def slots : Nat → Array Value → List (Nat × Value)
  | 0, _ => []
  | n + 1, a => (n, a.getD n undef) :: slots n a
theorem lkp_slots (a : Array Value) : ∀ n t, t < n → lkp (slots n a) t = some (a.getD t undef)
  | n + 1, t, h => by
    simp only [slots, lkp]
    by_cases ht : n = t
    · subst ht; simp
    · rw [beq_ne ht]; exact lkp_slots a n t (by omega)
theorem lkp_slots_inv (a : Array Value) : ∀ n t v, lkp (slots n a) t = some v → a.getD t undef = v
  | n + 1, t, v, h => by
    simp only [slots, lkp] at h
    by_cases ht : n = t
    · subst ht; simpa using h
    · rw [beq_ne ht] at h; exact lkp_slots_inv a n t v h
end Go.X
