/- Calls; slices that read as lists; new slices; append. -/
import Derived.Test.YtdhfokkkpcelpaaGreatDoorE2
set_option linter.unusedVariables false
set_option linter.unusedSimpArgs false
namespace Go.X
open Go.RowKit
/-! ### Calls -/
def Enters (P : Program) (g : FuncId) : Prop := ∃ fn, P.funcs[g]? = some fn ∧ fn.body.isSome = true ∧ (fn.name == "runtime.NumGoroutine") = false
theorem run_callFunc {P : Program} {g : FuncId} (h : Enters P g) (args : Array Value) (w : World) : (callFunc g args).run P w = .ok (.enter g args) w := by
  obtain ⟨fn, hf, hb, hn⟩ := h
  have hb' : ¬ fn.body = none := by cases hh : fn.body <;> simp_all
  have hn' : ¬ fn.name = "runtime.NumGoroutine" := by simpa using hn
  simp [callFunc, program, Sem.run, hf, hn', hb']
def opvs (L : List (Nat × Value)) : List Operand → Option (List Value)
  | [] => some []
  | x :: xs => match opv L x, opvs L xs with
    | some v, some vs => some (v :: vs)
    | _, _ => none
theorem Agr.map {L : List (Nat × Value)} {ρ : Operand → Value} (h : Agr L ρ) : ∀ {xs : List Operand} {vs : List Value}, opvs L xs = some vs → xs.map ρ = vs
  | [], vs, hv => by simp [opvs] at hv; simp [hv]
  | x :: xs, vs, hv => by
    simp only [opvs] at hv
    split at hv
    · rename_i v us h1 h2
      simp only [Option.some.injEq] at hv
      subst hv
      rw [List.map_cons, h x v h1, h.map h2]
    · cases hv
section
variable {P : Program} {o : Oper} {L : List (Nat × Value)} {w : World} {R : Value → World → Prop}
theorem yl_call {g : FuncId} {args : List Operand} {ts : Array TypeId} {vs : List Value} (hen : Enters P g) (ho : o.op = .call { callee := .value (.func g), args := args.toArray, argTypes := ts }) (ha : opvs L args = some vs) (hc : Cal P g vs.toArray w R) : Yl P o L w R := fun ρ hρ => by
  have hm := hρ.map ha
  have hf : ρ (.func g) = .func (.func g) #[] #[] := hρ (.func g) _ rfl
  have e : (execOp ρ o).run P w = .ok (.enter g vs.toArray) w := by
    simp [execOp, ho, resolve, hf, Deferred.ofValue, invoke, run_callFunc hen, hm]
  unfold YlR
  rw [e]
  exact hc
theorem yl_callv {g : FuncId} {f : Operand} {args : List Operand} {ts : Array TypeId} {vs caps : List Value} (hen : Enters P g) (ho : o.op = .call { callee := .value f, args := args.toArray, argTypes := ts }) (hf : opv L f = some (.func (.func g) #[] caps.toArray)) (ha : opvs L args = some vs)
    (hc : Cal P g (vs ++ caps).toArray w R) : Yl P o L w R := fun ρ hρ => by
  have hm := hρ.map ha
  have hf : ρ f = .func (.func g) #[] caps.toArray := hρ f _ hf
  have e : (execOp ρ o).run P w = .ok (.enter g (vs ++ caps).toArray) w := by
    simp [execOp, ho, resolve, hf, Deferred.ofValue, invoke, run_callFunc hen, hm]
  unfold YlR
  rw [e]
  exact hc
theorem yl_makeFunc {fn : Go.Fn} {caps : List Operand} {vs : List Value} (ho : o.op = .makeFunc fn #[] caps.toArray) (ha : opvs L caps = some vs) (hR : R (.func fn #[] vs.toArray) w) : Yl P o L w R :=
  .val (fun ρ hρ => by
    have hm := hρ.map ha
    simp [execOp, ho, Instr.makeFunc, hm]) hR
theorem yl_conv {x : Operand} {s t : TypeId} {k k' : IntKind} {n : Int} {d : TypeDesc} (hs : P.underlying s = some d) (ht : P.underlying t = some (.int k')) (ho : o.op = .convert s t x) (hx : opv L x = some (.int k n)) (hR : R (.int k' (k'.wrap n)) w) : Yl P o L w R :=
  .val (fun ρ hρ => by
    simp [execOp, ho, hρ x _ hx, convert, run_underlying hs, run_underlying ht, Conv.intToInt]) hR
theorem yl_build {t : TypeId} {parts : List (Nat × Operand)} {vs : List Value} {cs : List Value} (ho : o.op = .build t parts.toArray) (ha : opvs L (parts.map (·.2)) = some vs) (hb : P.built t ((parts.map (·.1)).zip vs) = some cs.toArray) (hR : R (.agg cs.toArray) w) : Yl P o L w R :=
  .val (fun ρ hρ => by
    have hm := hρ.map ha
    have e : parts.map (fun p => (p.1, ρ p.2)) = (parts.map (·.1)).zip vs := by
      rw [← hm, List.map_map]
      clear hm ha hb ho hR
      induction parts with
      | nil => rfl
      | cons p ps ih => simp only [List.map_cons, List.zip_cons_cons, ih, Function.comp]
    have := run_build (P := P) w t (parts.map (fun p => (p.1, ρ p.2))).toArray cs.toArray (by rw [List.toList_toArray, e]; exact hb)
    simp [execOp, ho, this]) hR
end
/-! ### Lists in memory -/
inductive EncL {α : Type} (R : List Value → α → Prop) (sz : Nat) : List Value → List α → Prop
  | nil : EncL R sz [] []
  | cons {c : List Value} {x : α} {cs : List Value} {xs : List α} (hl : c.length = sz) (h : R c x) (hs : EncL R sz cs xs) : EncL R sz (c ++ cs) (x :: xs)
section
variable {α : Type} {R R' : List Value → α → Prop} {sz : Nat}
theorem EncL.length {cs : List Value} {xs : List α} (h : EncL R sz cs xs) : cs.length = xs.length * sz := by
  induction h with
  | nil => simp
  | cons hl h hs ih => simp [hl, ih, Nat.add_mul, Nat.add_comm]
theorem EncL.mono {cs : List Value} {xs : List α} (h : EncL R sz cs xs) (hr : ∀ c x, R c x → R' c x) : EncL R' sz cs xs := by
  induction h with
  | nil => exact .nil
  | cons hl h hs ih => exact .cons hl (hr _ _ h) ih
theorem EncL.append {cs ds : List Value} {xs ys : List α} (h : EncL R sz cs xs) (k : EncL R sz ds ys) : EncL R sz (cs ++ ds) (xs ++ ys) := by
  induction h with
  | nil => exact k
  | cons hl h hs ih => rw [List.append_assoc]; exact .cons hl h ih
theorem EncL.one {c : List Value} {x : α} (hl : c.length = sz) (h : R c x) : EncL R sz c [x] := by
  have := EncL.cons hl h .nil
  rwa [List.append_nil] at this
theorem EncL.at {cs : List Value} {xs : List α} (h : EncL R sz cs xs) {i : Nat} (hi : i < xs.length) : ((cs.drop (i * sz)).take sz).length = sz ∧ R ((cs.drop (i * sz)).take sz) xs[i] := by
  induction h generalizing i with
  | nil => simp at hi
  | @cons c x cs xs hl h hs ih =>
    cases i with
    | zero =>
      have : (c ++ cs).take sz = c := by rw [← hl, List.take_left]
      simp only [Nat.zero_mul, List.drop_zero, this]
      exact ⟨hl, h⟩
    | succ i =>
      have e : (c ++ cs).drop ((i + 1) * sz) = cs.drop (i * sz) := by
        rw [Nat.add_mul, Nat.one_mul, Nat.add_comm, ← List.drop_drop, ← hl, List.drop_left]
      rw [e]
      exact ih (by simpa using hi)
theorem EncL.drop {cs : List Value} {xs : List α} (h : EncL R sz cs xs) (k : Nat) : EncL R sz (cs.drop (k * sz)) (xs.drop k) := by
  induction h generalizing k with
  | nil => simpa using EncL.nil
  | @cons c x cs xs hl h hs ih =>
    cases k with
    | zero => simpa using EncL.cons hl h hs
    | succ k =>
      have e : (c ++ cs).drop ((k + 1) * sz) = cs.drop (k * sz) := by
        rw [Nat.add_mul, Nat.one_mul, Nat.add_comm, ← List.drop_drop, ← hl, List.drop_left]
      rw [e]
      simpa using ih k
theorem EncL.take {cs : List Value} {xs : List α} (h : EncL R sz cs xs) (k : Nat) : EncL R sz (cs.take (k * sz)) (xs.take k) := by
  induction h generalizing k with
  | nil => simpa using EncL.nil
  | @cons c x cs xs hl h hs ih =>
    cases k with
    | zero => simpa using EncL.nil
    | succ k =>
      have e : (c ++ cs).take ((k + 1) * sz) = c ++ cs.take (k * sz) := by
        rw [List.take_append, List.take_of_length_le (by rw [hl, Nat.add_mul]; omega)]
        congr 2
        rw [hl, Nat.add_mul]; omega
      rw [e]
      simpa using EncL.cons hl h (ih k)
theorem EncL.set {cs : List Value} {xs : List α} (h : EncL R sz cs xs) {i : Nat} (hi : i < xs.length) {c : List Value} {x : α} (hl : c.length = sz) (hR : R c x) : EncL R sz (splice cs (i * sz) c) (xs.set i x) := by
  induction h generalizing i with
  | nil => simp at hi
  | @cons c' x' cs xs hl' h' hs ih =>
    cases i with
    | zero =>
      have e : splice (c' ++ cs) (0 * sz) c = c ++ cs := by
        simp only [splice, Nat.zero_mul, List.take_zero, List.nil_append, Nat.zero_add, hl, ← hl', List.drop_left]
      rw [e]
      exact .cons hl hR hs
    | succ i =>
      have e : splice (c' ++ cs) ((i + 1) * sz) c = c' ++ splice cs (i * sz) c := by
        have h1 : (i + 1) * sz = c'.length + i * sz := by rw [hl', Nat.add_mul]; omega
        simp only [splice, h1, List.take_append, List.drop_append, Nat.add_assoc]
        rw [List.take_of_length_le (by omega), List.drop_eq_nil_of_le (by omega)]
        simp [List.append_assoc]
      rw [e]
      exact .cons hl' h' (ih (by simpa using hi))
end
abbrev Rel (α : Type) := World → (Nat → Prop) → List Value → α → Prop
structure Gd {α : Type} (R : Rel α) : Prop where
  keep : ∀ {w w' : World} {S : Nat → Prop} {cs : List Value} {x : α}, R w S cs x → (∀ b, S b → b < w.heap.size → w'.heap[b]? = w.heap[b]?) → R w' S cs x
  wide : ∀ {w : World} {S S' : Nat → Prop} {cs : List Value} {x : α}, R w S cs x → (∀ b, S b → b < w.heap.size → S' b) → R w S' cs x
  one : ∀ {w : World} {S : Nat → Prop} {cs : List Value} {x : α}, R w S cs x → cs.all Value.oneCell' = true
def RF {α : Type} (enc : α → List Value) : Rel α := fun _ _ cs x => cs = enc x
theorem RF.good {α : Type} {enc : α → List Value} (h1 : ∀ x, (enc x).all Value.oneCell' = true) : Gd (RF enc) := ⟨fun h _ => h, fun h _ => h, fun {_ _ _ x} h => by rw [h]; exact h1 x⟩
def RdS {α : Type} (w : World) (S : Nat → Prop) (R : Rel α) (sz : Nat) (A : Option Addr) (n c : Nat) (xs : List α) : Prop :=
  n = xs.length ∧ n ≤ c ∧ (c ≤ maxLen ∧ n ≤ 281474976710656) ∧ ∃ cells, EncL (R w S) sz cells xs ∧ (xs = [] ∨ ∃ b off, A = some ⟨b, off, none⟩ ∧ S b ∧ b < w.heap.size ∧ Cells w b off cells)
section
variable {α : Type} {w w' : World} {S S' : Nat → Prop} {R : Rel α} {sz : Nat} {A : Option Addr} {n c : Nat} {xs : List α}
theorem lt_of_kept {b : Nat} (hb : b < w.heap.size) (h : w'.heap[b]? = w.heap[b]?) : b < w'.heap.size := by
  rcases Nat.lt_or_ge b w'.heap.size with hlt | hge
  · exact hlt
  · rw [Array.getElem?_eq_none hge, Array.getElem?_eq_getElem hb] at h; cases h
theorem RdS.keep (hg : Gd R) (h : RdS w S R sz A n c xs) (hk : ∀ b, S b → b < w.heap.size → w'.heap[b]? = w.heap[b]?) : RdS w' S R sz A n c xs := by
  obtain ⟨h1, h2, h3, cells, he, hc⟩ := h
  refine ⟨h1, h2, h3, cells, he.mono fun c x hx => hg.keep hx hk, ?_⟩
  rcases hc with h0 | ⟨b, off, hA, hS, hb, hc⟩
  · exact .inl h0
  · exact .inr ⟨b, off, hA, hS, lt_of_kept hb (hk b hS hb), hc.keep (hk b hS hb)⟩
theorem RdS.wide (hg : Gd R) (h : RdS w S R sz A n c xs) (hw : ∀ b, S b → b < w.heap.size → S' b) : RdS w S' R sz A n c xs := by
  obtain ⟨h1, h2, h3, cells, he, hc⟩ := h
  refine ⟨h1, h2, h3, cells, he.mono fun c x hx => hg.wide hx hw, ?_⟩
  rcases hc with h0 | ⟨b, off, hA, hS, hb, hc⟩
  · exact .inl h0
  · exact .inr ⟨b, off, hA, hw b hS hb, hb, hc⟩
theorem RdS.ex (hg : Gd R) (h : RdS w S R sz A n c xs) (e : Ex w w') : RdS w' S R sz A n c xs := h.keep hg (fun b _ hb => Below.block e b hb)
theorem RdS.only (hg : Gd R) {b' : Nat} (h : RdS w S R sz A n c xs) (e : Only b' w w') (hn : ¬ S b') : RdS w' S R sz A n c xs :=
  h.keep hg (fun b hb _ => e.block b (fun hh => hn (hh ▸ hb)))
theorem RdS.grown (hg : Gd R) {row : Option Nat} (h : RdS w S R sz A n c xs) (e : w.grownBy w' row) (hn : ∀ k, row = some k → ¬ S k) : RdS w' S R sz A n c xs :=
  h.keep hg (fun b hb hl => e.block b hl (fun hh => hn b hh.symm hb))
theorem RdS.len (h : RdS w S R sz A n c xs) : n = xs.length := h.1
theorem RdS.big (h : RdS w S R sz A n c xs) : n ≤ 281474976710656 := h.2.2.1.2
theorem RdS.nil (w : World) (S : Nat → Prop) (R : Rel α) (sz : Nat) (A : Option Addr) (c : Nat) (hc : c ≤ maxLen) : RdS w S R sz A 0 c [] := ⟨rfl, Nat.zero_le _, ⟨hc, by omega⟩, [], .nil, .inl rfl⟩
theorem RdS.at (h : RdS w S R sz A n c xs) {i : Nat} (hi : i < xs.length) : ∃ b off cs, A = some ⟨b, off, none⟩ ∧ S b ∧ b < w.heap.size ∧ cs.length = sz ∧ R w S cs xs[i] ∧ Cells w b (off + i * sz) cs := by
  obtain ⟨h1, h2, h3, cells, he, hc⟩ := h
  rcases hc with h0 | ⟨b, off, hA, hS, hb, hc⟩
  · subst h0; simp at hi
  · obtain ⟨hl, hR⟩ := he.at hi
    refine ⟨b, off, _, hA, hS, hb, hl, hR, fun j u hu => ?_⟩
    rw [List.getElem?_take] at hu
    split at hu
    · rw [List.getElem?_drop] at hu
      rw [Nat.add_assoc]
      exact hc _ _ hu
    · cases hu
theorem RdS.atD (h : RdS w S R sz A n c xs) (d : α) {i : Nat} (hi : i < n) : ∃ b off cs, A = some ⟨b, off, none⟩ ∧ S b ∧ b < w.heap.size ∧ cs.length = sz ∧ R w S cs (xs.getD i d) ∧ Cells w b (off + i * sz) cs := by
  have hi' : i < xs.length := h.1 ▸ hi
  have e : xs.getD i d = xs[i] := by simp [List.getD, List.getElem?_eq_getElem hi']
  rw [e]
  exact h.at hi'
theorem RdS.drop {k : Nat} (h : RdS w S R sz A n c xs) (hk : k ≤ n) : RdS w S R sz (if c = k then A else A.map (·.add (k * sz))) (n - k) (c - k) (xs.drop k) := by
  obtain ⟨h1, h2, h3, cells, he, hc⟩ := h
  refine ⟨by rw [List.length_drop, h1], by omega, ⟨Nat.le_trans (Nat.sub_le _ _) h3.1, by have := h3.2; omega⟩, _, he.drop k, ?_⟩
  rcases Nat.lt_or_ge k n with hlt | hge
  · right
    rcases hc with h0 | ⟨b, off, hA, hS, hb, hc⟩
    · subst h0; simp at h1; omega
    · rw [if_neg (by omega), hA]
      refine ⟨b, off + k * sz, by simp [add_none], hS, hb, fun j u hu => ?_⟩
      rw [List.getElem?_drop] at hu
      rw [Nat.add_assoc]
      exact hc _ _ hu
  · left
    rw [List.drop_eq_nil_of_le (by omega)]
theorem RdS.take {k : Nat} (h : RdS w S R sz A n c xs) (hk : k ≤ n) : RdS w S R sz A k c (xs.take k) := by
  obtain ⟨h1, h2, h3, cells, he, hc⟩ := h
  refine ⟨by rw [List.length_take]; omega, by omega, ⟨h3.1, by have := h3.2; omega⟩, _, he.take k, ?_⟩
  rcases hc with h0 | ⟨b, off, hA, hS, hb, hc⟩
  · left; subst h0; simp
  · right
    refine ⟨b, off, hA, hS, hb, fun j u hu => ?_⟩
    rw [List.getElem?_take] at hu
    split at hu
    · exact hc _ _ hu
    · cases hu
end
def Iv (lo hi : Nat) : Nat → Prop := fun b => lo ≤ b ∧ b < hi
end Go.X
