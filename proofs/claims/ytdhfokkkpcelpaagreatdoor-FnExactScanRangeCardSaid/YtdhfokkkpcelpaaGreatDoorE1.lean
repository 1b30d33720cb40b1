/- The engine: frames as association lists, operations by single lemmas, regions in the text's order and in an order that is drawn. -/
import Derived.Orders
import Derived.Calls
import Derived.Below
import Derived.KernelRfl
import Derived.Maps.AppendAt
set_option linter.unusedVariables false
set_option linter.unusedSimpArgs false
namespace Go.X
open Go.RowKit
def lkp : List (Nat × Value) → Nat → Option Value
  | [], _ => none
  | (d, v) :: L, t => bif Nat.beq d t then some v else lkp L t
def opv (L : List (Nat × Value)) : Operand → Option Value
  | .tmp t => lkp L t
  | .const v => some v
  | .global g => some (.pointer (some ⟨g, 0, none⟩))
  | .func f => some (.func (.func f) #[] #[])
theorem beq_ne {d t : Nat} (h : ¬ d = t) : Nat.beq d t = false := by
  rw [← Bool.not_eq_true]; intro hb; exact h (Nat.eq_of_beq_eq_true hb)
structure Ag (n : Nat) (L : List (Nat × Value)) (a : Act) : Prop where
  defers : a.defers = []
  size : a.tmps.size = n
  slot : ∀ t v, lkp L t = some v → a.tmps.getD t undef = v
def Agr (L : List (Nat × Value)) (ρ : Operand → Value) : Prop := ∀ x v, opv L x = some v → ρ x = v
theorem Ag.agr {n : Nat} {L : List (Nat × Value)} {a : Act} (h : Ag n L a) : Agr L a.eval := by
  intro x v hx
  cases x with
  | tmp t => exact h.slot t v hx
  | const u => simpa [opv, Act.eval] using hx
  | global g => simpa [opv, Act.eval] using hx
  | func f => simpa [opv, Act.eval] using hx
theorem getD_set (a : Array Value) (d t : Nat) (v : Value) (hd : d < a.size) : (a.setIfInBounds d v).getD t undef = if d = t then v else a.getD t undef := by
  simp only [Array.getD_eq_getD_getElem?, Array.getElem?_setIfInBounds]
  by_cases h : d = t
  · subst h; simp [hd]
  · simp [h]
theorem Ag.put {n : Nat} {L : List (Nat × Value)} {a : Act} (h : Ag n L a) {d : Nat} (hd : d < n) (v : Value) : Ag n ((d, v) :: L) (a.put (some d) v) := by
  refine ⟨h.defers, by simp [Act.put, h.size], fun t u hu => ?_⟩
  have hs := h.size
  show (a.tmps.setIfInBounds d v).getD t undef = u
  rw [getD_set _ _ _ _ (by omega)]
  simp only [lkp] at hu
  by_cases hdt : d = t
  · subst hdt; simp at hu; simp [hu]
  · have : Nat.beq d t = false := beq_ne hdt
    rw [this] at hu
    rw [if_neg hdt]
    exact h.slot t u hu
def Sub (L' L : List (Nat × Value)) : Prop := ∀ t v, lkp L' t = some v → lkp L t = some v
theorem Sub.nil (L : List (Nat × Value)) : Sub [] L := fun _ _ h => by cases h
theorem Sub.cons {L' L : List (Nat × Value)} {d : Nat} {v : Value} (h : lkp L d = some v) (hs : Sub L' L) : Sub ((d, v) :: L') L := by
  intro t u hu
  simp only [lkp] at hu
  by_cases hdt : d = t
  · subst hdt; simp at hu; subst hu; exact h
  · have : Nat.beq d t = false := beq_ne hdt
    rw [this] at hu
    exact hs t u hu
theorem Ag.sub {n : Nat} {L L' : List (Nat × Value)} {a : Act} (h : Ag n L a) (hs : Sub L' L) : Ag n L' a := ⟨h.defers, h.size, fun t v hv => h.slot t v (hs t v hv)⟩
theorem Agr.nil {ρ : Operand → Value} (hc : ∀ v, ρ (.const v) = v) (hg : ∀ g, ρ (.global g) = .pointer (some ⟨g, 0, none⟩)) (hf : ∀ f, ρ (.func f) = .func (.func f) #[] #[]) : Agr [] ρ := by
  intro x v hx
  cases x with
  | tmp t => cases hx
  | const u => simp only [opv, Option.some.injEq] at hx; rw [hc, hx]
  | global g => simp only [opv, Option.some.injEq] at hx; rw [hg, hx]
  | func f => simp only [opv, Option.some.injEq] at hx; rw [hf, hx]
theorem Agr.cons {ρ : Operand → Value} {L : List (Nat × Value)} {d : Nat} {v : Value} (h : ρ (.tmp d) = v) (hs : Agr L ρ) : Agr ((d, v) :: L) ρ := by
  intro x u hx
  cases x with
  | tmp t =>
    simp only [opv, lkp] at hx
    by_cases hdt : d = t
    · subst hdt; simp at hx; rw [h, hx]
    · have : Nat.beq d t = false := beq_ne hdt
      rw [this] at hx
      exact hs (.tmp t) u hx
  | const c => exact hs (.const c) u hx
  | global c => exact hs (.global c) u hx
  | func c => exact hs (.func c) u hx
def YlR (P : Program) (o : Oper) (ρ : Operand → Value) (w : World) (R : Value → World → Prop) : Prop :=
  match (execOp ρ o).run P w with
  | .ok (.value v) w' => R v w'
  | .ok .skip w' => R undef w'
  | .ok (.enter f args) w' => Calls P f args w' fun e w'' => ∃ v, e = .returned v ∧ R v w''
  | _ => False
def Yl (P : Program) (o : Oper) (L : List (Nat × Value)) (w : World) (R : Value → World → Prop) : Prop := ∀ ρ, Agr L ρ → YlR P o ρ w R
theorem YlR.mono {P : Program} {o : Oper} {ρ : Operand → Value} {w : World} {R R' : Value → World → Prop} (h : YlR P o ρ w R) (hr : ∀ v w', R v w' → R' v w') : YlR P o ρ w R' := by
  unfold YlR at *
  split at h
  · exact hr _ _ h
  · exact hr _ _ h
  · exact h.mono fun e w' ⟨v, he, hv⟩ => ⟨v, he, hr _ _ hv⟩
  · exact h.elim
theorem YlR.wp {P : Program} {o : Oper} {a : Act} {w : World} {K : Act → World → Prop} {Q : Exit → Act → World → Prop} (h : YlR P o a.eval w fun v w' => K (a.put o.dst v) w') : o.wp P a w K Q := by
  unfold YlR at h
  unfold Oper.wp
  generalize (execOp a.eval o).run P w = r at *
  cases r with
  | halt x w' => exact h.elim
  | ok n w' =>
    cases n <;> simp only [Oper.upon] at h ⊢ <;> first
      | exact h
      | (refine h.mono fun e w'' ⟨v, he, hv⟩ => ?_; subst he; exact hv)
      | exact h.elim
def putL (L : List (Nat × Value)) : Option Tmp → Value → List (Nat × Value)
  | some d, v => (d, v) :: L
  | none, _ => L
def dstOk (n : Nat) (o : Oper) : Bool := match o.dst with | some d => Nat.blt d n | none => true
theorem Ag.putL {n : Nat} {L : List (Nat × Value)} {a : Act} (h : Ag n L a) {o : Oper} (hd : dstOk n o = true) (v : Value) : Ag n (putL L o.dst v) (a.put o.dst v) := by
  unfold dstOk at hd
  split at hd
  · rename_i d hd'
    rw [hd']
    exact h.put (by simpa [Nat.blt_eq] using hd) v
  · rename_i hd'
    rw [hd']
    exact h
theorem yielded_of {ops : Array Oper} {a : Act} {j d : Nat} {b : Bool} (hj : (ops[j]?).bind (·.dst) = some d) (hv : a.tmps.getD d undef = .bool b) : yielded ops a.tmps j = some b := by
  unfold yielded
  rw [hj]
  simp only [Option.bind_some]
  rw [Array.getD_eq_getD_getElem?] at hv
  cases h : a.tmps[d]? with
  | none => rw [h] at hv; simp [undef] at hv
  | some u => rw [h] at hv; simp at hv; subst hv; rfl
def notB (b : Bool) : Value → Bool
  | .bool g => g != b
  | _ => true
def OpR (P : Program) (ops : Array Oper) (o : Oper) (L : List (Nat × Value)) (w : World) (R : Value → World → Prop) : Prop :=
  match o.guard with
  | none => Yl P o L w R
  | some (j, b) => ∃ d v, (ops[j]?).bind (·.dst) = some d ∧ lkp L d = some v ∧ ((v = .bool b ∧ Yl P o L w R) ∨ (notB b v = true ∧ R undef w))
theorem OpR.op {P : Program} {ops : Array Oper} {o : Oper} {L : List (Nat × Value)} {w : World} {R : Value → World → Prop} (hg : o.guard = none) (h : Yl P o L w R) : OpR P ops o L w R := by
  unfold OpR; rw [hg]; exact h
theorem OpR.want {P : Program} {ops : Array Oper} {o : Oper} {L : List (Nat × Value)} {w : World} {R : Value → World → Prop} {j d : Nat} {b g : Bool} (hg : o.guard = some (j, b)) (hj : (ops[j]?).bind (·.dst) = some d)
    (hv : lkp L d = some (.bool g)) (hb : g = b) (h : Yl P o L w R) : OpR P ops o L w R := by
  unfold OpR; rw [hg]; exact ⟨d, .bool g, hj, hv, .inl ⟨by rw [hb], h⟩⟩
theorem OpR.skip {P : Program} {ops : Array Oper} {o : Oper} {L : List (Nat × Value)} {w : World} {R : Value → World → Prop} {j d : Nat} {b g : Bool} (hg : o.guard = some (j, b)) (hj : (ops[j]?).bind (·.dst) = some d)
    (hv : lkp L d = some (.bool g)) (hb : g = !b) (h : R undef w) : OpR P ops o L w R := by
  unfold OpR; rw [hg]; exact ⟨d, .bool g, hj, hv, .inr ⟨by rw [hb]; cases b <;> rfl, h⟩⟩
theorem OpR.undef {P : Program} {ops : Array Oper} {o : Oper} {L : List (Nat × Value)} {w : World} {R : Value → World → Prop} {j d : Nat} {b : Bool} (hg : o.guard = some (j, b)) (hj : (ops[j]?).bind (·.dst) = some d)
    (hv : lkp L d = some Go.undef) (h : R Go.undef w) : OpR P ops o L w R := by
  unfold OpR; rw [hg]; exact ⟨d, _, hj, hv, .inr ⟨rfl, h⟩⟩
def SeqR (P : Program) (n : Nat) (ops : Array Oper) (K : List (Nat × Value) → World → Prop) : List Oper → List (Nat × Value) → World → Prop
  | [], L, w => K L w
  | o :: l, L, w => dstOk n o = true ∧ OpR P ops o L w fun v w' => SeqR P n ops K l (putL L o.dst v) w'
theorem SeqR.op {P : Program} {n : Nat} {ops : Array Oper} {K : List (Nat × Value) → World → Prop} {o : Oper} {l : List Oper} {L : List (Nat × Value)} {w : World} (hg : o.guard = none) (hd : dstOk n o = true)
    (h : Yl P o L w fun v w' => SeqR P n ops K l (putL L o.dst v) w') : SeqR P n ops K (o :: l) L w := ⟨hd, .op hg h⟩
theorem SeqR.want {P : Program} {n : Nat} {ops : Array Oper} {K : List (Nat × Value) → World → Prop} {o : Oper} {l : List Oper} {L : List (Nat × Value)} {w : World} {j d : Nat} {b g : Bool} (hg : o.guard = some (j, b)) (hd : dstOk n o = true) (hj : (ops[j]?).bind (·.dst) = some d)
    (hv : lkp L d = some (.bool g)) (hb : g = b) (h : Yl P o L w fun v w' => SeqR P n ops K l (putL L o.dst v) w') : SeqR P n ops K (o :: l) L w := ⟨hd, .want hg hj hv hb h⟩
theorem SeqR.skip {P : Program} {n : Nat} {ops : Array Oper} {K : List (Nat × Value) → World → Prop} {o : Oper} {l : List Oper} {L : List (Nat × Value)} {w : World} {j d : Nat} {b g : Bool} (hg : o.guard = some (j, b)) (hd : dstOk n o = true) (hj : (ops[j]?).bind (·.dst) = some d)
    (hv : lkp L d = some (.bool g)) (hb : g = !b) (h : SeqR P n ops K l (putL L o.dst undef) w) : SeqR P n ops K (o :: l) L w := ⟨hd, .skip hg hj hv hb h⟩
theorem OpR.wpOp {P : Program} {ops : Array Oper} {o : Oper} {L : List (Nat × Value)} {n : Nat} {a : Act} {w : World} {R : Value → World → Prop} {i : Nat} {Q : Exit → Act → World → Prop} {K : Act → World → Prop}
    (hi : ops[i]? = some o) (hA : Ag n L a) (h : OpR P ops o L w R) (hK : ∀ v w', R v w' → K (a.put o.dst v) w') : wpOp P ops Q i K a w := by
  unfold Go.wpOp
  rw [hi]
  simp only
  unfold OpR at h
  cases hg : o.guard with
  | none =>
    rw [hg] at h
    simp only at h
    have hw : Region.wanted o (yielded ops a.tmps) = true := by simp [Region.wanted, hg]
    rw [if_pos hw]
    exact .inl (YlR.wp ((h _ hA.agr).mono hK))
  | some g =>
    obtain ⟨j, b⟩ := g
    rw [hg] at h
    obtain ⟨d, u, hj, hv, h⟩ := h
    have hs := hA.slot d _ hv
    rcases h with ⟨hu, h⟩ | ⟨hu, h⟩
    · subst hu
      have hy := yielded_of hj hs
      have hw : Region.wanted o (yielded ops a.tmps) = true := by
        simp [Region.wanted, hg, hy]
      rw [if_pos hw]
      exact .inl (YlR.wp ((h _ hA.agr).mono hK))
    · have hw : ¬ Region.wanted o (yielded ops a.tmps) = true := by
        simp only [Region.wanted, hg]
        intro he
        have he : yielded ops a.tmps j = some b := by simpa using he
        unfold yielded at he
        rw [hj] at he
        simp only [Option.bind_some] at he
        rw [Array.getD_eq_getD_getElem?] at hs
        cases hx : a.tmps[d]? with
        | none => rw [hx] at he; cases he
        | some x =>
          rw [hx] at he hs
          simp only [Option.getD_some] at hs
          subst hs
          cases x <;> simp at he
          subst he
          simp [notB] at hu
      rw [if_neg hw]
      exact hK _ _ h
def CW (P : Program) (n : Nat) (c : Code) (Q : Exit → List (Nat × Value) → World → Prop) (L : List (Nat × Value)) (w : World) : Prop :=
  ∀ a, Ag n L a → c.wp P (fun e a' w' => ∃ L', Ag n L' a' ∧ Q e L' w') a w
theorem SeqR.wpOps {P : Program} {n : Nat} {ops : Array Oper} {K : List (Nat × Value) → World → Prop} {Q : Exit → Act → World → Prop} (hK : ∀ L a w, Ag n L a → K L w → Q .normal a w) :
    ∀ (l : List Oper) (k : Nat) (L : List (Nat × Value)) (a : Act) (w : World), (∀ j, l[j]? = ops[k + j]?) → Ag n L a → SeqR P n ops K l L w → wpOps P ops Q (List.range' k l.length) a w
  | [], _, L, a, w, _, hA, h => by
    simp only [List.length_nil, List.range'_zero, Go.wpOps]
    exact hK _ _ _ hA h
  | o :: l, k, L, a, w, hl, hA, h => by
    obtain ⟨hd, h⟩ := h
    rw [List.length_cons, List.range'_succ, wpOps_cons]
    refine OpR.wpOp (o := o) (by simpa using (hl 0).symm) hA h fun v w' hv => ?_
    exact SeqR.wpOps hK l (k + 1) _ _ _ (fun j => by have := hl (j + 1); simpa [Nat.add_assoc, Nat.add_comm 1 j] using this) (hA.putL hd v) hv
theorem CW.region {P : Program} {n : Nat} {id : Nat} {ops : List Oper} {Q : Exit → List (Nat × Value) → World → Prop} {L : List (Nat × Value)} {w : World} (h : SeqR P n ops.toArray (Q .normal) ops L w) : CW P n (.region id ops.toArray false) Q L w := by
  intro a hA
  refine wp_region ?_
  have := SeqR.wpOps (Q := fun e a' w' => ∃ L', Ag n L' a' ∧ Q e L' w') (K := Q .normal) (fun L a w hA h => ⟨L, hA, h⟩) ops 0 L a w (fun j => by simp) hA h
  simpa [List.range_eq_range'] using this
theorem CW.mono {P : Program} {n : Nat} {c : Code} {Q Q' : Exit → List (Nat × Value) → World → Prop} {L : List (Nat × Value)} {w : World} (h : CW P n c Q L w) (hq : ∀ e L w, Q e L w → Q' e L w) : CW P n c Q' L w :=
  fun a hA => wp_mono (h a hA) fun _ _ _ ⟨L', hA', hQ⟩ => ⟨L', hA', hq _ _ _ hQ⟩
def thenQ (next : List (Nat × Value) → World → Prop) (Q : Exit → List (Nat × Value) → World → Prop) : Exit → List (Nat × Value) → World → Prop
  | .normal, L, w => next L w
  | e, L, w => Q e L w
theorem CW.seq {P : Program} {n : Nat} {x y : Code} {Q : Exit → List (Nat × Value) → World → Prop} {L : List (Nat × Value)} {w : World} (h : CW P n x (thenQ (CW P n y Q) Q) L w) : CW P n (.seq x y) Q L w := by
  intro a hA
  refine wp_seq (wp_mono (h a hA) fun e a' w' ⟨L', hA', hQ⟩ => ?_)
  cases e with
  | normal => exact hQ a' hA'
  | _ => exact ⟨L', hA', hQ⟩
theorem CW.skip {P : Program} {n : Nat} {Q : Exit → List (Nat × Value) → World → Prop} {L : List (Nat × Value)} {w : World} (h : Q .normal L w) : CW P n .skip Q L w := fun _ hA => wp_skip ⟨L, hA, h⟩
theorem CW.exit {P : Program} {n id : Nat} {Q : Exit → List (Nat × Value) → World → Prop} {L : List (Nat × Value)} {w : World} (h : Q (.exit id) L w) : CW P n (.exit id) Q L w := fun _ hA => wp_exit ⟨L, hA, h⟩
theorem CW.ret {P : Program} {n : Nat} {Q : Exit → List (Nat × Value) → World → Prop} {L : List (Nat × Value)} {w : World} (h : Q .ret L w) : CW P n .ret Q L w := fun _ hA => wp_ret ⟨L, hA, h⟩
theorem CW.cond_t {P : Program} {n : Nat} {c : Operand} {x y : Code} {Q : Exit → List (Nat × Value) → World → Prop} {L : List (Nat × Value)} {w : World} {b : Bool} (hc : opv L c = some (.bool b)) (hb : b = true) (h : CW P n x Q L w) : CW P n (.cond c x y) Q L w :=
  fun a hA => wp_cond_true ((hA.agr c _ hc).trans (by rw [hb])) (h a hA)
theorem CW.cond_f {P : Program} {n : Nat} {c : Operand} {x y : Code} {Q : Exit → List (Nat × Value) → World → Prop} {L : List (Nat × Value)} {w : World} {b : Bool} (hc : opv L c = some (.bool b)) (hb : b = false) (h : CW P n y Q L w) : CW P n (.cond c x y) Q L w :=
  fun a hA => wp_cond_false ((hA.agr c _ hc).trans (by rw [hb])) (h a hA)
theorem CW.sub {P : Program} {n : Nat} {c : Code} {Q : Exit → List (Nat × Value) → World → Prop} {L L' : List (Nat × Value)} {w : World} (hs : Sub L' L) (h : CW P n c Q L' w) : CW P n c Q L w := fun a hA => h a (hA.sub hs)
def inBlockQ (id : Nat) (Q : Exit → List (Nat × Value) → World → Prop) : Exit → List (Nat × Value) → World → Prop
  | .exit id', L, w => if id' = id then Q .normal L w else Q (.exit id') L w
  | e, L, w => Q e L w
theorem CW.block {P : Program} {n id : Nat} {c : Code} {Q : Exit → List (Nat × Value) → World → Prop} {L : List (Nat × Value)} {w : World} (h : CW P n c (inBlockQ id Q) L w) : CW P n (.block id c) Q L w := by
  intro a hA
  refine wp_block (wp_mono (h a hA) fun e a' w' ⟨L', hA', hQ⟩ => ?_)
  cases e with
  | exit id' =>
    simp only [inBlockQ] at hQ
    simp only [Exit.inBlock]
    split at hQ
    · rename_i hid; rw [if_pos hid]; exact ⟨L', hA', hQ⟩
    · rename_i hid; rw [if_neg hid]; exact ⟨L', hA', hQ⟩
  | _ => exact ⟨L', hA', hQ⟩
theorem CW.loop {P : Program} {n : Nat} {c : Code} {Q : Exit → List (Nat × Value) → World → Prop} {L : List (Nat × Value)} {w : World} (I : Nat → List (Nat × Value) → World → Prop) (m : Nat) (h0 : I m L w)
    (round : ∀ m L w, I m L w → CW P n c (thenQ (fun L' w' => ∃ m', m' < m ∧ I m' L' w') Q) L w) : CW P n (.loop c) Q L w := by
  intro a hA
  -- the measure is the least number for which the relation holds
  have key : ∀ a w, (∃ m L, Ag n L a ∧ I m L w) → ∃ m, (∃ L, Ag n L a ∧ I m L w) ∧ ∀ m', m' < m → ¬ ∃ L, Ag n L a ∧ I m' L w := by
    rintro a w ⟨m, hm⟩
    induction m using Nat.strongRecOn with
    | _ m ih =>
      by_cases hlt : ∃ m', m' < m ∧ ∃ L, Ag n L a ∧ I m' L w
      · obtain ⟨m', hl, h⟩ := hlt
        exact ih m' hl h
      · exact ⟨m, hm, fun m' hl h => hlt ⟨m', hl, h⟩⟩
  let μ : Act → World → Nat := fun a w => open Classical in if h : ∃ m L, Ag n L a ∧ I m L w then (key a w h).choose else 0
  refine wp_loop (fun a w => ∃ m L, Ag n L a ∧ I m L w) μ ⟨m, L, hA, h0⟩ fun a w hI => ?_
  have hμ : μ a w = (key a w hI).choose := dif_pos hI
  obtain ⟨⟨L1, hA1, hI1⟩, hmin⟩ := (key a w hI).choose_spec
  rw [← hμ] at hI1 hmin
  refine wp_mono (round _ _ _ hI1 a hA1) fun e a' w' ⟨L', hA', hQ⟩ => ?_
  cases e with
  | normal =>
    obtain ⟨m', hlt, hI'⟩ := hQ
    have hex : ∃ m L, Ag n L a' ∧ I m L w' := ⟨m', L', hA', hI'⟩
    refine ⟨hex, Nat.lt_of_le_of_lt ?_ hlt⟩
    have hμ' : μ a' w' = (key a' w' hex).choose := dif_pos hex
    have hmin' := (key a' w' hex).choose_spec.2
    rw [← hμ'] at hmin'
    exact Nat.le_of_not_lt fun h => hmin' _ h ⟨L', hA', hI'⟩
  | _ => exact ⟨L', hA', hQ⟩
def tup (vs : List Value) : Value := match vs with | [v] => v | vs => .tuple vs.toArray
def retQ (P : Program) (fn : Func) (R : Value → World → Prop) : Exit → List (Nat × Value) → World → Prop
  | .normal, L, w | .ret, L, w => ∀ a n, Ag n L a → ∃ v, (results fn a.tmps).run P w = .ok v w ∧ R v w
  | _, _, _ => False
def Cal (P : Program) (f : FuncId) (args : Array Value) (w : World) (R : Value → World → Prop) : Prop := Calls P f args w fun e w' => ∃ v, e = .returned v ∧ R v w'
theorem Cal.mono {P : Program} {f : FuncId} {args : Array Value} {w : World} {R R' : Value → World → Prop} (h : Cal P f args w R) (hr : ∀ v w', R v w' → R' v w') : Cal P f args w R' :=
  Calls.mono h fun _ _ ⟨v, he, hv⟩ => ⟨v, he, hr _ _ hv⟩
def startL : Nat → List Value → List (Nat × Value)
  | _, [] => []
  | k, v :: vs => (k, v) :: startL (k + 1) vs
theorem lkp_startL (vs : List Value) : ∀ (k t : Nat) (v : Value), lkp (startL k vs) t = some v → k ≤ t ∧ vs[t - k]? = some v := by
  induction vs with
  | nil => intro k t v h; cases h
  | cons u vs ih =>
    intro k t v h
    simp only [startL, lkp] at h
    by_cases hkt : k = t
    · subst hkt; simp at h; subst h; simp
    · rw [beq_ne hkt] at h
      obtain ⟨h1, h2⟩ := ih _ _ _ h
      refine ⟨by omega, ?_⟩
      have : t - k = (t - (k + 1)) + 1 := by omega
      rw [this]
      simpa using h2
theorem Cal.of {P : Program} {f : FuncId} {fn : Func} {c : Code} {n : Nat} {vs : List Value} {w : World} {R : Value → World → Prop} (hf : P.funcs[f]? = some fn) (hb : fn.body = some c) (hn : fn.ntmps = n)
    (hl : Nat.ble vs.length n = true) (h : CW P n c (retQ P fn R) (startL 0 vs) w) : Cal P f vs.toArray w R := by
  have hl' : vs.length ≤ n := by simpa using hl
  refine calls_of_wp hf hb (wp_mono (h _ ⟨rfl, by simp [hn]; omega, fun t v hv => ?_⟩) fun e a w' ⟨L, hA, hQ⟩ => ?_)
  · have h2 := (lkp_startL vs 0 t v hv).2
    have ht : t < vs.length := by
      rcases Nat.lt_or_ge t vs.length with h | h
      · exact h
      · simp [List.getElem?_eq_none h] at h2
    simp only [Nat.sub_zero] at h2
    rw [Array.getD_eq_getD_getElem?, Array.getElem?_append_left (by simpa using ht)]
    simp [h2]
  · cases e with
    | normal => obtain ⟨v, hr, hR⟩ := hQ a _ hA; exact ⟨hA.defers, v, hr, v, rfl, hR⟩
    | ret => obtain ⟨v, hr, hR⟩ := hQ a _ hA; exact ⟨hA.defers, v, hr, v, rfl, hR⟩
    | _ => exact hQ.elim
def ResR (P : Program) (L : List (Nat × Value)) (w : World) : ResultVar → Value → Prop
  | .tmp t, v => lkp L t = some v
  | .cell b t, v => ∃ a, lkp L b = some (.pointer (some a)) ∧ (loadVar t a).run P w = .ok v w
inductive ResRs (P : Program) (L : List (Nat × Value)) (w : World) : List ResultVar → List Value → Prop
  | nil : ResRs P L w [] []
  | cons {r : ResultVar} {v : Value} {rs : List ResultVar} {vs : List Value} (h : ResR P L w r v) (hs : ResRs P L w rs vs) : ResRs P L w (r :: rs) (v :: vs)
theorem retQ.of {P : Program} {fn : Func} {R : Value → World → Prop} {L : List (Nat × Value)} {w : World} {rs : List ResultVar} {vs : List Value} (hr : fn.results = rs.toArray) (hv : ResRs P L w rs vs) (h : R (tup vs) w) :
    ∀ a n, Ag n L a → ∃ v, (results fn a.tmps).run P w = .ok v w ∧ R v w := by
  intro a n hA
  refine ⟨tup vs, ?_, h⟩
  unfold results
  rw [hr]
  simp only [List.mapM_toArray, Sem.run_bind, Sem.run_map]
  have key : ∀ f : ResultVar → Sem Value, (∀ t, f (.tmp t) = pure (a.tmps.getD t undef)) → (∀ b t, f (.cell b t) = do loadVar t (← asAddr (a.tmps.getD b undef))) →
      ∀ (rs : List ResultVar) (vs : List Value), ResRs P L w rs vs → (rs.mapM f).run P w = .ok vs w := by
    intro f f1 f2 rs vs h
    induction h with
    | nil => simp
    | @cons r v rs vs h hs ih =>
      rw [List.mapM_cons]
      cases r with
      | tmp t =>
        simp only [ResR] at h
        simp only [f1, Sem.run_bind, Sem.run_pure, Result.andThen, ih, hA.slot _ _ h]
      | cell b t =>
        obtain ⟨ad, hb, hl⟩ := h
        have h2 : (f (.cell b t)).run P w = .ok v w := by
          rw [f2, hA.slot _ _ hb]; simpa [asAddr] using hl
        simp only [Sem.run_bind, h2, Result.andThen, ih, Sem.run_pure]
  rw [key _ (fun _ => rfl) (fun _ _ => rfl) rs vs hv]
  simp only [Result.andThen, Sem.run_pure]
  match vs with
  | [] => rfl
  | [v] => rfl
  | v :: u :: vs => simp [tup]
end Go.X
