/- A region that draws its order: each operation by itself. -/
import Derived.Test.YtdbobbmagmcpnaaE3
set_option linter.unusedVariables false
set_option linter.unusedSimpArgs false
namespace Go.X
open Go.RowKit

def depsOf (o : Oper) : List Nat := o.after.toList.filterMap fun e => bif Region.binds .any e then some e.on else none
theorem mem_depsOf {o : Oper} {j : Nat} : j ∈ depsOf o ↔ ∃ e ∈ o.after, Region.binds .any e = true ∧ e.on = j := by
  simp only [depsOf, List.mem_filterMap, Array.mem_toList_iff]
  constructor
  · rintro ⟨e, he, h⟩
    by_cases hb : Region.binds .any e = true
    · simp [hb] at h; exact ⟨e, he, hb, h⟩
    · simp [hb] at h
  · rintro ⟨e, he, hb, rfl⟩
    exact ⟨e, he, by simp [hb]⟩

/-- slot t as it stood ahead of the region, at operation i: whatever writes t stands behind i -/
def freeB (i t : Nat) (ops : List Oper) : Bool := ops.all fun o => match o.dst with
  | some d => !Nat.beq d t || (depsOf o).any (Nat.beq i)
  | none => true
def noW (t : Nat) (ops : List Oper) : Bool := ops.all fun o => match o.dst with
  | some d => !Nat.beq d t
  | none => true
def depsLt : Nat → List Oper → Bool
  | _, [] => true
  | i, o :: l => (depsOf o).all (Nat.blt · i) && depsLt (i + 1) l
theorem depsLt_spec {ops : List Oper} : ∀ {k : Nat}, depsLt k ops = true → ∀ i o, ops[i]? = some o → ∀ j ∈ depsOf o, j < k + i := by
  induction ops with
  | nil => intro k _ i o h; simp at h
  | cons o' l ih =>
    intro k h i o hi j hj
    simp only [depsLt, Bool.and_eq_true, List.all_eq_true] at h
    cases i with
    | zero => simp at hi; subst hi; have := h.1 j hj; simpa [Nat.blt_eq] using this
    | succ i => have := ih h.2 i o (by simpa using hi) j hj; omega
/-- no slot is written twice -/
def uniqB : List Oper → Bool
  | [] => true
  | o :: l => (match o.dst with | some d => noW d l | none => true) && uniqB l
theorem noW_spec {t : Nat} {ops : List Oper} (h : noW t ops = true) : ∀ o ∈ ops, o.dst ≠ some t := by
  intro o ho hd
  have := List.all_eq_true.1 h o ho
  rw [hd] at this
  simp at this
theorem uniqB_spec {ops : List Oper} (h : uniqB ops = true) : ∀ (i j : Nat) (o o' : Oper) (d : Tmp), ops[i]? = some o → ops[j]? = some o' → o.dst = some d → o'.dst = some d → i = j := by
  induction ops with
  | nil => intro i j o o' d h; simp at h
  | cons p l ih =>
    simp only [uniqB, Bool.and_eq_true] at h
    intro i j o o' d hi hj ho ho'
    cases i with
    | zero =>
      cases j with
      | zero => rfl
      | succ j =>
        simp at hi hj; subst hi
        have h1 := h.1
        rw [ho] at h1
        exact absurd ho' (noW_spec h1 o' (List.mem_of_getElem? hj))
    | succ i =>
      cases j with
      | zero =>
        simp at hi hj; subst hj
        have h1 := h.1
        rw [ho'] at h1
        exact absurd ho (noW_spec h1 o (List.mem_of_getElem? hi))
      | succ j => rw [ih h.2 i j o o' d (by simpa using hi) (by simpa using hj) ho ho']

/-- what operation i may lean on -/
structure Known (ops : List Oper) (L0 : List (Nat × Value)) (w0 : World) (V : Nat → Value → World → Prop) (i : Nat) (o : Oper) (L : List (Nat × Value)) (w : World) : Prop where
  ex : Ex w0 w
  old : ∀ t v, lkp L0 t = some v → freeB i t ops = true → lkp L t = some v
  dep : ∀ j d, (depsOf o).any (Nat.beq j) = true → (ops[j]?).bind (·.dst) = some d → ∃ v, lkp L d = some v ∧ V j v w

/-- every operation, wherever it comes up -/
def Hops (P : Program) (ops : List Oper) (L0 : List (Nat × Value)) (w0 : World) (V : Nat → Value → World → Prop) : Nat → List Oper → Prop
  | _, [] => True
  | i, o :: l => (∀ L w, Known ops L0 w0 V i o L w → OpR P ops.toArray o L w fun v w' => V i v w' ∧ Ex w w') ∧ Hops P ops L0 w0 V (i + 1) l
theorem Hops.spec {P : Program} {ops : List Oper} {L0 : List (Nat × Value)} {w0 : World} {V : Nat → Value → World → Prop} : ∀ {l : List Oper} {k : Nat}, Hops P ops L0 w0 V k l → ∀ i o, l[i]? = some o → ∀ L w, Known ops L0 w0 V (k + i) o L w → OpR P ops.toArray o L w fun v w' => V (k + i) v w' ∧ Ex w w'
  | [], _, _, i, o, hi => by simp at hi
  | p :: l, k, h, i, o, hi => by
    cases i with
    | zero => simp at hi; subst hi; exact h.1
    | succ i =>
      have := Hops.spec h.2 i o (by simpa using hi)
      rwa [show k + 1 + i = k + (i + 1) by omega] at this

/-- what stands behind the region -/
structure Past (ops : List Oper) (L0 : List (Nat × Value)) (w0 : World) (V : Nat → Value → World → Prop) (L : List (Nat × Value)) (w : World) : Prop where
  ex : Ex w0 w
  old : ∀ t v, lkp L0 t = some v → noW t ops = true → lkp L t = some v
  new : ∀ j d, (ops[j]?).bind (·.dst) = some d → ∃ v, lkp L d = some v ∧ V j v w

def slots : Nat → Array Value → List (Nat × Value)
  | 0, _ => []
  | n + 1, a => (n, a.getD n undef) :: slots n a
theorem lkp_slots (a : Array Value) : ∀ n t, t < n → lkp (slots n a) t = some (a.getD t undef)
  | n + 1, t, h => by
    simp only [slots, lkp]
    by_cases ht : n = t
    · subst ht; simp
    · rw [beq_ne ht]; exact lkp_slots a n t (by omega)
theorem lkp_slots_inv (a : Array Value) : ∀ n t v, lkp (slots n a) t = some v → a.getD t undef = v
  | n + 1, t, v, h => by
    simp only [slots, lkp] at h
    by_cases ht : n = t
    · subst ht; simpa using h
    · rw [beq_ne ht] at h; exact lkp_slots_inv a n t v h

theorem CW.draws {P : Program} {n id : Nat} {ops : List Oper} {Q : Exit → List (Nat × Value) → World → Prop} {L0 : List (Nat × Value)} {w0 : World} (V : Nat → Value → World → Prop)
    (hm : P.follows .mixedOrders = true) (hd : ops.all (dstOk n) = true) (hu : uniqB ops = true) (hlt : depsLt 0 ops = true) (hL0 : L0.all (fun p => Nat.blt p.1 n) = true)
    (hV : ∀ i v w w', V i v w → Ex w w' → V i v w') (hops : Hops P ops L0 w0 V 0 ops) (hK : ∀ L w, Past ops L0 w0 V L w → Q .normal L w) : CW P n (.region id ops.toArray true) Q L0 w0 := by
  intro a0 hA0
  refine wp_region_any hm ?_
  have hu' := uniqB_spec hu
  have hlt' := depsLt_spec hlt
  -- the invariant
  have key : ∀ (fuel : Nat) (listed : Array Bool) (a : Act) (w : World), listed.size = ops.length → listed.toList.count false = fuel → Ex w0 w → a.defers = [] → a.tmps.size = n →
      (∀ j o d, listed.getD j false = true → ops[j]? = some o → o.dst = some d → V j (a.tmps.getD d undef) w) →
      (∀ t v, lkp L0 t = some v → (∀ j o, listed.getD j false = true → ops[j]? = some o → o.dst ≠ some t) → a.tmps.getD t undef = v) →
      (∀ j o, listed.getD j false = true → ops[j]? = some o → ∀ e ∈ depsOf o, listed.getD e false = true) →
      wpAny P .any ops.toArray (fun e a' w' => ∃ L', Ag n L' a' ∧ Q e L' w') fuel listed a w := by
    intro fuel
    induction fuel with
    | zero =>
      intro listed a w hsz hc hE hdf hts h1 h2 h3
      have hall : ∀ i, i < listed.size → listed.getD i false = true := by
        intro i hi
        have hmem : false ∉ listed.toList := List.count_eq_zero.1 hc
        have hg : listed.getD i false = listed[i] := by simp [Array.getD_eq_getD_getElem?, hi]
        rw [hg]
        cases hb : listed[i] with
        | true => rfl
        | false => exact absurd (by rw [← hb]; simp) hmem
      refine ⟨?_, slots n a.tmps, ⟨hdf, hts, lkp_slots_inv _ _⟩, hK _ _ ⟨hE, fun t v hv hnw => ?_, fun j d hj => ?_⟩⟩
      · apply List.eq_nil_iff_forall_not_mem.2
        intro i hi
        obtain ⟨h0, o, ho, _⟩ := mem_ready.1 hi
        have hlt : i < listed.size := by rw [hsz]; simpa using (Array.getElem?_eq_some_iff.1 ho).1
        have := hall i hlt
        simp [Array.getD_eq_getD_getElem?, hlt] at this h0
        rw [this] at h0; cases h0
      · have htn : t < n := by
          have hmem : ∀ (l : List (Nat × Value)), lkp l t = some v → ∃ p ∈ l, p.1 = t := by
            intro l
            induction l with
            | nil => intro h; cases h
            | cons p l ih =>
              intro h
              obtain ⟨q, u⟩ := p
              simp only [lkp] at h
              by_cases hq : q = t
              · exact ⟨(q, u), by simp, hq⟩
              · rw [beq_ne hq] at h
                obtain ⟨p, hp, hp'⟩ := ih h
                exact ⟨p, by simp [hp], hp'⟩
          obtain ⟨p, hp, rfl⟩ := hmem L0 hv
          simpa [Nat.blt_eq] using List.all_eq_true.1 hL0 p hp
        rw [lkp_slots _ _ _ htn]
        exact congrArg some (h2 t v hv fun j o _ ho hdt => noW_spec hnw o (List.mem_of_getElem? (by simpa using ho)) hdt)
      · cases ho : ops[j]? with
        | none => simp [ho] at hj
        | some o =>
          simp [ho] at hj
          have hjl : j < ops.length := (List.getElem?_eq_some_iff.1 ho).1
          have hdn : d < n := by
            have := List.all_eq_true.1 hd o (List.mem_of_getElem? ho)
            simpa [dstOk, hj, Nat.blt_eq] using this
          exact ⟨_, lkp_slots _ _ _ hdn, h1 j o d (hall j (by omega)) ho hj⟩
    | succ fuel ih =>
      intro listed a w hsz hc hE hdf hts h1 h2 h3
      have hfree : ∀ i, i < listed.size → listed.getD i true = false → listed.getD i false = false := by
        intro i hi h; simpa [Array.getD_eq_getD_getElem?, hi] using h
      constructor
      · intro hr
        exfalso
        -- the least operation that is not listed is ready
        have hex : ∃ i, i < ops.length ∧ listed.getD i true = false := by
          have hpos : 0 < listed.toList.count false := by omega
          obtain ⟨i, hi, hb⟩ := List.getElem_of_mem (List.count_pos_iff.1 hpos)
          refine ⟨i, by simpa [hsz] using hi, ?_⟩
          have hi' : i < listed.size := by simpa using hi
          simp only [Array.getElem_toList] at hb
          simp [Array.getD_eq_getD_getElem?, hi', hb]
        have hleast : ∀ k i, i < ops.length → listed.getD i true = false → i ≤ k → ∃ i, i < ops.length ∧ listed.getD i true = false ∧ ∀ j, j < i → listed.getD j true = true := by
          intro k
          induction k with
          | zero => intro i hi h hk; exact ⟨i, hi, h, fun j hj => by omega⟩
          | succ k ihk =>
            intro i hi h hk
            by_cases hh : ∃ j, j < i ∧ listed.getD j true = false
            · obtain ⟨j, hj, hjf⟩ := hh
              exact ihk j (by omega) hjf (by omega)
            · refine ⟨i, hi, h, fun j hj => ?_⟩
              cases hb : listed.getD j true with
              | true => rfl
              | false => exact absurd ⟨j, hj, hb⟩ hh
        obtain ⟨i0, hi0, hf0⟩ := hex
        obtain ⟨i, hi, hf, hl⟩ := hleast i0 i0 hi0 hf0 (Nat.le_refl _)
        have hoi : ops[i]? = some ops[i] := List.getElem?_eq_getElem hi
        have : i ∈ Region.ready .any ops.toArray listed := by
          refine mem_ready.2 ⟨hf, ops[i], by simp, fun e he hb => ?_⟩
          have hej := hlt' i _ hoi e.on (mem_depsOf.2 ⟨e, he, hb, rfl⟩)
          have hes : e.on < listed.size := by omega
          have := hl e.on (by omega)
          simpa [Array.getD_eq_getD_getElem?, hes] using this
        rw [hr] at this
        cases this
      · intro i hi
        obtain ⟨h0, o, ho, hdeps⟩ := mem_ready.1 hi
        have ho' : ops[i]? = some o := by simpa using ho
        have hil : i < ops.length := (List.getElem?_eq_some_iff.1 ho').1
        have his : i < listed.size := by omega
        have h0' := hfree i his h0
        have hop := Hops.spec hops i o ho'
        simp only [Nat.zero_add] at hop
        have hAg : Ag n (slots n a.tmps) a := ⟨hdf, hts, lkp_slots_inv _ _⟩
        have hlean : Known ops L0 w0 V i o (slots n a.tmps) w := by
          refine ⟨hE, fun t v hv hfr => ?_, fun j d hj hjd => ?_⟩
          · have htn : t < n := by
              have hmem : ∀ (l : List (Nat × Value)), lkp l t = some v → ∃ p ∈ l, p.1 = t := by
                intro l
                induction l with
                | nil => intro h; cases h
                | cons p l ih =>
                  intro h
                  obtain ⟨q, u⟩ := p
                  simp only [lkp] at h
                  by_cases hq : q = t
                  · exact ⟨(q, u), by simp, hq⟩
                  · rw [beq_ne hq] at h
                    obtain ⟨p, hp, hp'⟩ := ih h
                    exact ⟨p, by simp [hp], hp'⟩
              obtain ⟨p, hp, rfl⟩ := hmem L0 hv
              simpa [Nat.blt_eq] using List.all_eq_true.1 hL0 p hp
            rw [lkp_slots _ _ _ htn]
            refine congrArg some (h2 t v hv fun j o' hj ho'' hdt => ?_)
            have hf := List.all_eq_true.1 hfr o' (List.mem_of_getElem? ho'')
            rw [hdt] at hf
            simp only [Nat.beq_refl, Bool.not_true, Bool.false_or, List.any_eq_true] at hf
            obtain ⟨e, he, hie⟩ := hf
            have := h3 j o' hj ho'' e he
            rw [← Nat.eq_of_beq_eq_true hie] at this
            rw [h0'] at this; cases this
          · obtain ⟨e, he, hje⟩ := List.any_eq_true.1 hj
            have hje := Nat.eq_of_beq_eq_true hje
            subst hje
            obtain ⟨e', he', hb', rfl⟩ := mem_depsOf.1 he
            have hlj := hdeps e' he' hb'
            cases hoj : ops[e'.on]? with
            | none => simp [hoj] at hjd
            | some oj =>
              simp [hoj] at hjd
              have hdn : d < n := by
                have := List.all_eq_true.1 hd oj (List.mem_of_getElem? hoj)
                simpa [dstOk, hjd, Nat.blt_eq] using this
              exact ⟨_, lkp_slots _ _ _ hdn, h1 _ oj d hlj hoj hjd⟩
        refine OpR.wpOp (o := o) ho hAg (hop _ _ hlean) fun v w' ⟨hv, hE'⟩ => ?_
        have hset : ∀ j, (listed.setIfInBounds i true).getD j false = true ↔ (j = i ∨ listed.getD j false = true) := by
          intro j
          by_cases hj : i = j
          · subst hj; simp [his]
          · rw [getD_set_ne false hj]
            constructor
            · exact .inr
            · rintro (h | h)
              · exact absurd h.symm hj
              · exact h
        have hdo := List.all_eq_true.1 hd o (List.mem_of_getElem? ho')
        have hAg' := hAg.putL hdo v
        -- the slots behind the operation
        have hput : ∀ t, (a.put o.dst v).tmps.getD t undef = if o.dst = some t then v else a.tmps.getD t undef := by
          intro t
          cases hod : o.dst with
          | none => simp [Act.put]
          | some d =>
            have hdn : d < n := by simpa [dstOk, hod, Nat.blt_eq] using hdo
            show (a.tmps.setIfInBounds d v).getD t undef = _
            rw [getD_set _ _ _ _ (by rw [hts]; exact hdn)]
            simp
        refine ih _ _ _ (by simpa using hsz) ?_ (hE.trans hE') hAg'.defers hAg'.size ?_ ?_ ?_
        · have hcs : listed.toList[i]? = some false := by
            have : listed[i] = false := by simpa [Array.getD_eq_getD_getElem?, his] using h0'
            rw [List.getElem?_eq_getElem (by simpa using his)]
            simp [this]
          rw [Array.toList_setIfInBounds]
          have hils : i < listed.toList.length := by simpa using his
          have hge : listed.toList[i] = false := by
            rw [List.getElem?_eq_getElem hils] at hcs; simpa using hcs
          rw [List.count_set hils, hge, hc]
          simp
        · intro j oj d hj hoj hdj
          rw [hput]
          rcases (hset j).1 hj with rfl | hj'
          · rw [ho'] at hoj
            simp only [Option.some.injEq] at hoj
            subst hoj
            rw [if_pos hdj]
            exact hv
          · by_cases hji : j = i
            · subst hji
              rw [ho'] at hoj
              simp only [Option.some.injEq] at hoj
              subst hoj
              rw [if_pos hdj]; exact hv
            · rw [if_neg (fun hh => hji (hu' j i oj o d hoj ho' hdj hh))]
              exact hV _ _ _ _ (h1 j oj d hj' hoj hdj) hE'
        · intro t u hu hnw
          rw [hput, if_neg (fun hh => hnw i o ((hset i).2 (.inl rfl)) ho' hh)]
          exact h2 t u hu fun j oj hj hoj => hnw j oj ((hset j).2 (.inr hj)) hoj
        · intro j oj hj hoj e he
          rw [hset]
          rcases (hset j).1 hj with rfl | hj'
          · rw [ho'] at hoj
            simp only [Option.some.injEq] at hoj
            subst hoj
            obtain ⟨e', he', hb', rfl⟩ := mem_depsOf.1 he
            exact .inr (hdeps e' he' hb')
          · exact .inr (h3 j oj hj' hoj e he)
  refine key ops.toArray.size _ a0 _ (by simp) (by simp) (Ex.drew w0) hA0.defers hA0.size ?_ ?_ ?_
  · intro j o d hj
    simp [Array.getD_eq_getD_getElem?, Array.getElem?_replicate] at hj
    split at hj <;> simp at hj
  · intro t v hv _
    exact hA0.slot t v hv
  · intro j o hj
    simp [Array.getD_eq_getD_getElem?, Array.getElem?_replicate] at hj
    split at hj <;> simp at hj
end Go.X
