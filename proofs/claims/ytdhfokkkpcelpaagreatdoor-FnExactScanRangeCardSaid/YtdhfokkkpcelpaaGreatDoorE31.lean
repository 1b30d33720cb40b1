/- Shorter words: what stands at a drawing region's temps, a loop's temps as one list, bounds. -/
import Derived.Test.YtdhfokkkpcelpaaGreatDoorE30
set_option linter.unusedVariables false
set_option linter.unusedSimpArgs false
namespace Go.X
open Go.RowKit
def lkK (ops : List Oper) (L0 : List (Nat × Value)) (vs : List Value) (i : Nat) (o : Oper) (d : Nat) : Option Value :=
  match (depsOf o).find? (fun j => match (ops[j]?).bind (·.dst) with | some e => Nat.beq e d | none => false) with
  | some j => vs[j]?
  | none => bif freeB i d ops then lkp L0 d else none
def lkN : Nat → List Oper → List Value → Nat → Option Value
  | m + 1, o :: ops, v :: vs, d => match o.dst with
    | some e => bif Nat.beq e d then some v else lkN m ops vs d
    | none => lkN m ops vs d
  | _, _, _, _ => none
def lkP (ops : List Oper) (m : Nat) (L0 : List (Nat × Value)) (vs : List Value) (d : Nat) : Option Value :=
  match lkN m ops vs d with
  | some v => some v
  | none => bif noW d (ops.take m) then lkp L0 d else none
def lkSs (f : Nat → Option Value) : List Nat → Option (List (Nat × Value))
  | [] => some []
  | d :: ds => match f d, lkSs f ds with
    | some v, some l => some ((d, v) :: l)
    | _, _ => none
theorem Sub.of {f : Nat → Option Value} {L : List (Nat × Value)} (hf : ∀ d v, f d = some v → lkp L d = some v) : ∀ (ds : List Nat) (L' : List (Nat × Value)), lkSs f ds = some L' → Sub L' L
  | [], L', h => by cases h; exact Sub.nil L
  | d :: ds, L', h => by
    unfold lkSs at h
    split at h
    · rename_i v l h1 h2
      cases h
      exact Sub.cons (hf d v h1) (Sub.of hf ds l h2)
    · cases h
theorem sR {L' L : List (Nat × Value)} (h : lkSs (lkp L) (L'.map (·.1)) = some L') : Sub L' L := Sub.of (fun _ _ h => h) _ _ h
section
variable {ops : List Oper} {o : Oper} {L0 L : List (Nat × Value)} {w0 w : World} {vs : List Value} {i : Nat}
theorem KnownI.g {c : Value} (h : KnownI ops L0 w0 (vgetI (vs.map DetI)) i o L w) (d : Nat) (hh : lkK ops L0 vs i o d = some c) : lkp L d = some c := by
  unfold lkK at hh
  split at hh
  · rename_i j hj
    have h1 := List.find?_some hj
    have h2 : j ∈ depsOf o := List.mem_of_find?_eq_some hj
    have h3 : (depsOf o).any (Nat.beq j) = true := List.any_eq_true.2 ⟨j, h2, Nat.beq_refl j⟩
    have h4 : (ops[j]?).bind (·.dst) = some d := by
      revert h1
      cases he : (ops[j]?).bind (·.dst) with
      | none => intro h1; cases h1
      | some e => intro h1; rw [Nat.eq_of_beq_eq_true h1]
    exact h.dt j d h3 h4 (by rw [List.getElem?_map, hh]; rfl)
  · cases hb : freeB i d ops with
    | false => rw [hb] at hh; cases hh
    | true => rw [hb] at hh; exact h.old d c hh hb
theorem lkN.spec : ∀ {m : Nat} {ops : List Oper} {vs : List Value} {d : Nat} {c : Value}, lkN m ops vs d = some c → ∃ j, Nat.blt j m = true ∧ (ops[j]?).bind (·.dst) = some d ∧ vs[j]? = some c
  | 0, _, _, _, _, h => by cases h
  | m + 1, [], _, _, _, h => by cases h
  | m + 1, _ :: _, [], _, _, h => by cases h
  | m + 1, o :: ops, v :: vs, d, c, h => by
    have up : lkN m ops vs d = some c → ∃ j, Nat.blt j (m + 1) = true ∧ ((o :: ops)[j]?).bind (·.dst) = some d ∧ (v :: vs)[j]? = some c := fun h => by
      obtain ⟨j, h1, h2, h3⟩ := lkN.spec h
      have h1 : j + 1 ≤ m := Nat.le_of_ble_eq_true h1
      exact ⟨j + 1, Nat.ble_eq_true_of_le (by omega), by simpa using h2, by simpa using h3⟩
    unfold lkN at h
    split at h
    · rename_i e he
      cases hb : Nat.beq e d with
      | false => rw [hb] at h; exact up h
      | true => rw [hb] at h; cases h; exact ⟨0, by simp [Nat.blt], by rw [List.getElem?_cons_zero, Option.bind_some, he, Nat.eq_of_beq_eq_true hb], rfl⟩
    · exact up h
theorem PastI.ss {m : Nat} {lo hi : Nat → Nat} (h : PastI ops m L0 w0 (vgetI (vs.map DetI)) lo hi L w) (ds : List Nat) {L' : List (Nat × Value)} (hh : lkSs (lkP ops m L0 vs) ds = some L') : Sub L' L :=
  Sub.of (fun d c hc => by
    unfold lkP at hc
    split at hc
    · rename_i v hv
      cases hc
      obtain ⟨j, h1, h2, h3⟩ := lkN.spec hv
      exact h.nt j d h1 h2 (by rw [List.getElem?_map, h3]; rfl)
    · cases hb : noW d (ops.take m) with
      | false => rw [hb] at hc; cases hc
      | true => rw [hb] at hc; exact h.old d c hc hb) ds L' hh
end
section
variable {P : Program} {n : Nat} {id : Nat} {Q : Exit → List (Nat × Value) → World → Prop}
theorem drJ {ops : List Oper} {L0 : List (Nat × Value)} {w0 : World} (m : Nat) (vs : List Value)
    (hm : P.follows .mixedOrders = true) (hd : (((((ops.all (dstOk n) && uniqB ops) && depsLt 0 ops) && L0.all (fun p => Nat.blt p.1 n)) && Nat.ble m ops.length) && tailB ops m (ops.drop m)) = true)
    (hops : HopsI P ops L0 w0 (vgetI (vs.map DetI)) 0 (ops.take m)) (hK : ∀ lo hi L w, PastI ops m L0 w0 (vgetI (vs.map DetI)) lo hi L w → SeqR P n ops.toArray (Q .normal) (ops.drop m) L w) : CW P n (.region id ops.toArray true) Q L0 w0 := by
  simp only [Bool.and_eq_true] at hd
  obtain ⟨⟨⟨⟨⟨h1, h2⟩, h3⟩, h4⟩, h5⟩, h6⟩ := hd
  exact CW.drawsI m (vgetI (vs.map DetI)) hm h1 h2 h3 h4 h5 h6 (vgetI_stable (stD _)) hops hK
end
theorem splice_all {cs vs : List Value} (h : cs.length = vs.length) : splice cs 0 vs = vs := by
  unfold splice
  simp [← h]
theorem yl_storeA {P : Program} {o : Oper} {L : List (Nat × Value)} {w : World} {R : Value → World → Prop} {x y : Operand} {T T0 : TypeId} {sz by_ b : Nat} {z : Option Value} {ag : Bool} {v : Value} {vs cs : List Value} (hT : tyB P T = some (sz, by_, z, ag)) (ho : o.op = .store T x y) (hx : opv L x = some (.pointer (some ⟨b, 0, none⟩)))
    (hy : opv L y = some v) (hc : v.cells = vs.toArray) (hl : vs.length = sz) (h1 : vs.all Value.oneCell' = true) (hB : Box w b T0 cs) (hz : cs.length = sz)
    (hR : ∀ w', Box w' b T0 vs → Only b w w' → R undef w') : Yl P o L w R :=
  yl_store hT ho hx hy hc hl h1 hB (by omega) (by rw [splice_all (hz.trans hl.symm)]; exact hR)
theorem bcD {p q : Prop} [Decidable q] (ht : decide q = true → q → p) (hf : decide q = false → ¬ q → p) : p := bcase (decide q) (fun h => ht h (dec_t h)) (fun h => hf h (dec_f h))
theorem iV {p : Prop} (h : p := by (simp only [Iv, Ge]; omega)) : p := h
theorem hV {A B C : Nat → Prop} (h : ∀ k, C k → A k) (f : ∀ k, A k → B k := by (intro k hk; simp only [Iv, Ge]; omega)) : ∀ k, C k → B k := fun k hk => f k (h k hk)
theorem hW {A B C : Nat → Prop} (h : ∀ k, C k → A k) (f : ∀ k, A k → B k := by (intro k hk; omega)) : ∀ k, C k → B k := fun k hk => f k (h k hk)
theorem kR {p : Prop} (h : p := by (intro k hk; simp only [InR, or_false] at hk; omega)) : p := h
theorem oB {α : Type} {R : Rel α} {w : World} {b E sz : Nat} (h : Box w b E []) : OwnL w b (b + 1) E sz R (some ⟨b, 0, none⟩) 0 0 ([] : List α) := OwnL.of_box (S := fun _ => False) h (Nat.le_refl _) (Nat.lt_succ_self _) EncL.nil (Nat.le_of_ble_eq_true rfl) (fun h => h) (fun _ h => False.elim h)
theorem R {α : Sort _} {a : α} : a = a := rfl
end Go.X
