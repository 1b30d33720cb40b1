import Derived.Test.YtdhfokkkpcelpaaGreatDoorE18
/-! clear of a list's tail; the list's head stays the call's own. -/
set_option linter.unusedVariables false
set_option linter.unusedSimpArgs false
namespace Go.X
open Go.RowKit
section
variable {α : Type} {P : Program} {o : Oper} {L : List (Nat × Value)} {w : World} {Q : Value → World → Prop} {R : Rel α} {lo hi E sz n c k : Nat} {A : Option Addr} {xs : List α}
theorem Own.take {cells : List Value} (h : Own w lo E sz A n c cells) (hk : k ≤ n) : Own w lo E sz A k c (cells.take (k * sz)) := by
  have hn := h.2
  have hl := h.len
  obtain ⟨f1, f2, hf⟩ := h.form
  have hmul := Nat.mul_le_mul_right sz hk
  rcases hf with ⟨hA, h0⟩ | ⟨g, hA, hlo, hlt⟩
  · have : k = n := by omega
    subst this
    rw [List.take_of_length_le (by omega)]
    exact h
  · subst hA
    obtain ⟨rest, hB, hr, hnc, hcm, hlo⟩ := h.box
    refine Own.of_box' (rest := cells.drop (k * sz) ++ rest) ?_ (by rw [List.length_take]; omega) ?_ (by omega) hcm hlo (by omega)
    · rw [← List.append_assoc, List.take_append_drop]; exact hB
    · rw [List.length_append, List.length_drop, hl, hr, ← Nat.sub_mul, ← Nat.add_mul]
      congr 1; omega
theorem EncL.take' {w : World} {S : Nat → Prop} {cells : List Value} {R : Rel α} (h : EncL (R w S) sz cells xs) : ∀ k, EncL (R w S) sz (cells.take (k * sz)) (xs.take k) := by
  induction h with
  | nil => intro k; simp only [List.take_nil]; exact .nil
  | @cons c x cs xs hl h hs ih =>
    intro k
    cases k with
    | zero => simp only [Nat.zero_mul, List.take_zero]; exact .nil
    | succ k =>
      have e : (c ++ cs).take ((k + 1) * sz) = c ++ cs.take (k * sz) := by
        rw [Nat.succ_mul, Nat.add_comm, List.take_append, List.take_of_length_le (by omega)]
        congr 2; omega
      rw [e, List.take_succ_cons]
      exact .cons hl h (ih k)
theorem OwnL.take (h : OwnL w lo hi E sz R A n c xs) (hk : k ≤ n) : OwnL w lo hi E sz R A k c (xs.take k) := by
  obtain ⟨h1, h2⟩ := h
  refine ⟨by rw [List.length_take]; omega, ?_⟩
  rcases h2 with ⟨h0, hc⟩ | ⟨a, S, cells, ho, he, h3, h4⟩
  · exact .inl ⟨by omega, hc⟩
  · exact .inr ⟨a, S, _, ho.take hk, he.take' k, h3, h4⟩
theorem zeroCells_one {z : Value} (hz : ∀ u ∈ z.cells, u.oneCell' = true) (m : Nat) : ∀ u ∈ (Builtin.zeroCells z.cells m).toList, u.oneCell' = true := by
  intro u hu
  unfold Builtin.zeroCells at hu
  rw [Array.toList_map] at hu
  obtain ⟨i, hi, rfl⟩ := List.mem_map.1 hu
  rw [Array.mem_toList_iff, Array.mem_range] at hi
  rcases Nat.eq_zero_or_pos z.cells.size with h0 | h0
  · rw [h0] at hi; omega
  · have := Nat.mod_lt i h0
    rw [getElem!_pos z.cells _ this]
    exact hz _ (Array.getElem_mem _)
theorem yl_clearT {x : Operand} {t by_ : Nat} {z : Value} {ag : Bool} (hg : Gd R) (ht : P.underlying t = some (.slice E)) (hE : tyB P E = some (sz, by_, some z, ag)) (hzs : z.cells.size = sz) (hz1 : z.cells.toList.all Value.oneCell' = true)
    (ho : o.op = .call { callee := .builtin .clear, args := #[x], argTypes := #[t] }) (hx : opv L x = some (.slice (if c = k then A else A.map (·.add (k * sz))) (n - k) (c - k))) (hown : OwnL w lo hi E sz R A n c xs) (hk : k ≤ n)
    (hQ : ∀ v w', OwnL w' lo hi E sz R A k c (xs.take k) → Mut [(lo, hi)] w w' → Q v w') : Yl P o L w Q := fun ρ hρ => by
  rcases Nat.lt_or_ge k n with hlt | hge
  · obtain ⟨a, S, cells, ho', he, h3, h4⟩ := hown.full hlt
    obtain ⟨f1, f2, hf⟩ := ho'.form
    rcases hf with ⟨_, h0⟩ | ⟨g, hA, hlo, hlt'⟩
    · omega
    subst hA
    obtain ⟨rest, hB, hr, hnc, hcm, hlo2⟩ := ho'.box
    have hl := ho'.len
    have hn2 : n ≤ 281474976710656 := ho'.2
    have hck : ¬ c = k := by omega
    rw [if_neg hck] at hx
    have hzl : (Builtin.zeroCells z.cells (n - k)).toList.length = (n - k) * sz := by rw [Array.length_toList, size_zeroCells, hzs]
    have hmul : k * sz + (n - k) * sz = n * sz := by rw [← Nat.add_mul]; congr 1; omega
    have hst := run_storeCells_at (P := P) g (0 + k * sz) E (Builtin.zeroCells z.cells (n - k)).toList 0 (cells ++ rest).toArray w hB (by rw [hzl]; simp only [List.size_toArray, List.length_append]; omega) (zeroCells_one (fun u hu => List.all_eq_true.1 hz1 u (Array.mem_toList_iff.2 hu)) _)
    have hnk : n - k ≠ 0 := by omega
    have e : (execOp ρ o).run P w = .ok (.value (.tuple #[])) (w.setRow g (splice (cells ++ rest) (k * sz) (Builtin.zeroCells z.cells (n - k)).toList).toArray) := by
      simp only [Nat.zero_add, Nat.add_zero] at hst
      simp [execOp, ho, hρ x _ hx, resolve, invoke, builtin, Builtin.clear_, run_underlying ht, run_zero hE, add_none, hst, splice]
    unfold YlR
    rw [e]
    have hO := setRow_only w g (splice (cells ++ rest) (k * sz) (Builtin.zeroCells z.cells (n - k)).toList).toArray
    refine hQ _ _ ⟨by rw [List.length_take]; have := hown.1; omega, .inr ⟨a, S, cells.take (k * sz), ?_, ?_, h3, h4⟩⟩ (.only (.refl w) hO (.inl (a g rfl)))
    · have hB' : Box (w.setRow g (splice (cells ++ rest) (k * sz) (Builtin.zeroCells z.cells (n - k)).toList).toArray) g E (splice (cells ++ rest) (k * sz) (Builtin.zeroCells z.cells (n - k)).toList) := by
        unfold Box
        exact setRow_heap w g (cells ++ rest).toArray _ E _ hB
      have es : splice (cells ++ rest) (k * sz) (Builtin.zeroCells z.cells (n - k)).toList = cells.take (k * sz) ++ ((Builtin.zeroCells z.cells (n - k)).toList ++ rest) := by
        simp only [splice, hzl]
        rw [List.take_append_of_le_length (by omega), hmul, ← hl, List.drop_left, List.append_assoc]
      have hB2 : Box (w.setRow g (splice (cells ++ rest) (k * sz) (Builtin.zeroCells z.cells (n - k)).toList).toArray) g E (cells.take (k * sz) ++ ((Builtin.zeroCells z.cells (n - k)).toList ++ rest)) := by rw [← es]; exact hB'
      refine Own.of_box' hB2 (by rw [List.length_take]; omega) ?_ (by omega) hcm hlo2 (by omega)
      rw [List.length_append, hzl, hr, ← Nat.add_mul]
      congr 1; omega
    · refine (he.take' k).mono fun c x hx => hg.keep hx fun b hb hl => ?_
      exact hO.block b (fun e => h3 g rfl (e ▸ hb))
  · have hkn : k = n := by omega
    subst hkn
    have e : (execOp ρ o).run P w = .ok (.value (.tuple #[])) w := by
      rw [Nat.sub_self] at hx
      generalize (if c = k then A else A.map (·.add (k * sz))) = A' at hx
      cases A' <;> simp [execOp, ho, hρ x _ hx, resolve, invoke, builtin, Builtin.clear_, run_underlying ht]
    unfold YlR
    rw [e]
    exact hQ _ _ (hown.take (Nat.le_refl _)) (.refl w)
end
/-! What slices.DeleteFunc has done when it has looked at j elements and kept i. -/
structure DF {α : Type} (f : α → Bool) (p xs : List α) (i j : Nat) : Prop where
  lt : i < j
  le : j ≤ p.length
  len : xs.length = p.length
  pre : xs.take i = (p.take j).filter fun y => !f y
  suf : xs.drop j = p.drop j
section
variable {α : Type} {f : α → Bool} {p xs : List α} {i j : Nat} {d : α}
theorem DF.start (h : j < p.length) (ht : f p[j] = true) (hb : ∀ k (hk : k < j), f (p[k]'(by omega)) = false) : DF f p p j (j + 1) where
  lt := Nat.lt_succ_self _
  le := h
  len := rfl
  pre := by
    rw [List.take_succ_eq_append_getElem h, List.filter_append, List.filter_eq_self.2, List.filter_cons, ht]
    · simp
    · intro a ha
      obtain ⟨k, hk, rfl⟩ := List.mem_iff_getElem.1 ha
      rw [List.length_take] at hk
      rw [List.getElem_take, hb k (by omega)]; rfl
  suf := rfl
theorem DF.get (h : DF f p xs i j) (hj : j < p.length) : xs.getD j d = p.getD j d := by
  have e : (xs.drop j).getD 0 d = (p.drop j).getD 0 d := by rw [h.suf]
  simpa [List.getD, List.getElem?_drop] using e
theorem getD_in {i : Nat} (h : i < p.length) : p.getD i d = p[i] := by simp [List.getD, List.getElem?_eq_getElem h]
theorem DF.gone (h : DF f p xs i j) (hj : j < p.length) (hf : f (p.getD j d) = true) : DF f p xs i (j + 1) where
  lt := Nat.lt_succ_of_lt h.lt
  le := hj
  len := h.len
  pre := by
    rw [getD_in hj] at hf
    rw [List.take_succ_eq_append_getElem hj, List.filter_append, List.filter_cons, hf, h.pre]; simp
  suf := by rw [← List.drop_drop (i := 1), h.suf, List.drop_drop]
theorem DF.kept (h : DF f p xs i j) (hj : j < p.length) (hf : f (p.getD j d) = false) : DF f p (xs.set i (p.getD j d)) (i + 1) (j + 1) where
  lt := Nat.succ_lt_succ h.lt
  le := hj
  len := by rw [List.length_set]; exact h.len
  pre := by
    have hl := h.len
    have hi := h.lt
    rw [getD_in hj] at hf ⊢
    rw [List.take_succ_eq_append_getElem (by rw [List.length_set]; omega), List.take_set_of_le (Nat.le_refl _), List.getElem_set_self, List.take_succ_eq_append_getElem hj, List.filter_append, List.filter_cons, hf, h.pre]; simp
  suf := by
    rw [List.drop_set_of_lt (by have := h.lt; omega), ← List.drop_drop (i := 1), h.suf, List.drop_drop]
theorem DF.done (h : DF f p xs i p.length) : xs.take i = (p.filter fun y => !f y) ∧ i = (p.filter fun y => !f y).length := by
  have e := h.pre
  rw [List.take_length] at e
  refine ⟨e, ?_⟩
  rw [← e, List.length_take]
  have := h.lt; have := h.len; omega
theorem filter_none (h : ∀ x ∈ p, f x = false) : (p.filter fun y => !f y) = p := List.filter_eq_self.2 fun x hx => by rw [h x hx]; rfl
theorem headA {A : Option Addr} {b off : Nat} (h : A = some ⟨b, off, none⟩) : A.map (·.add 0) = A := by subst h; rfl
end
end Go.X
