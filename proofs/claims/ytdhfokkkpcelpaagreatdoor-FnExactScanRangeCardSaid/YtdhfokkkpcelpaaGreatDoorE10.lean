/- A region that draws its order, and whose last operations stand behind all others; functions whose body is the toolchain's own. -/
import Derived.Test.YtdhfokkkpcelpaaGreatDoorE9
import Derived.Lib.Bytealg
import Derived.Laws.Externs
set_option linter.unusedVariables false
set_option linter.unusedSimpArgs false
namespace Go.X
open Go.RowKit
structure KnownI (ops : List Oper) (L0 : List (Nat × Value)) (w0 : World) (V : Nat → Nat → Nat → Value → World → Prop) (i : Nat) (o : Oper) (L : List (Nat × Value)) (w : World) : Prop where
  ex : Ex w0 w
  old : ∀ t v, lkp L0 t = some v → freeB i t ops = true → lkp L t = some v
  dep : ∀ j d, (depsOf o).any (Nat.beq j) = true → (ops[j]?).bind (·.dst) = some d → ∃ lo hi v, lkp L d = some v ∧ w0.heap.size ≤ lo ∧ lo ≤ hi ∧ hi ≤ w.heap.size ∧ V j lo hi v w
def HopsI (P : Program) (ops : List Oper) (L0 : List (Nat × Value)) (w0 : World) (V : Nat → Nat → Nat → Value → World → Prop) : Nat → List Oper → Prop
  | _, [] => True
  | i, o :: l => (∀ L w, KnownI ops L0 w0 V i o L w → OpR P ops.toArray o L w fun v w' => V i w.heap.size w'.heap.size v w' ∧ Ex w w') ∧ HopsI P ops L0 w0 V (i + 1) l
theorem HopsI.spec {P : Program} {ops : List Oper} {L0 : List (Nat × Value)} {w0 : World} {V : Nat → Nat → Nat → Value → World → Prop} : ∀ {l : List Oper} {k : Nat}, HopsI P ops L0 w0 V k l → ∀ i o, l[i]? = some o → ∀ L w, KnownI ops L0 w0 V (k + i) o L w → OpR P ops.toArray o L w fun v w' => V (k + i) w.heap.size w'.heap.size v w' ∧ Ex w w'
  | [], _, _, i, o, hi => by simp at hi
  | p :: l, k, h, i, o, hi => by
    cases i with
    | zero => simp at hi; subst hi; exact h.1
    | succ i =>
      have := HopsI.spec h.2 i o (by simpa using hi)
      rwa [show k + 1 + i = k + (i + 1) by omega] at this
structure PastI (ops : List Oper) (m : Nat) (L0 : List (Nat × Value)) (w0 : World) (V : Nat → Nat → Nat → Value → World → Prop) (lo hi : Nat → Nat) (L : List (Nat × Value)) (w : World) : Prop where
  ex : Ex w0 w
  old : ∀ t v, lkp L0 t = some v → noW t (ops.take m) = true → lkp L t = some v
  new : ∀ j d, Nat.blt j m = true → (ops[j]?).bind (·.dst) = some d → ∃ v, lkp L d = some v ∧ V j (lo j) (hi j) v w
  rng : ∀ j, Nat.blt j m = true → w0.heap.size ≤ lo j ∧ lo j ≤ hi j ∧ hi j ≤ w.heap.size
  sep : ∀ i j, Nat.blt i m = true → Nat.blt j m = true → Nat.beq i j = false → hi i ≤ lo j ∨ hi j ≤ lo i
def behind (ops : List Oper) : Nat → Nat → Nat → Bool
  | 0, _, _ => false
  | f + 1, i, j => match ops[i]? with
    | some o => (depsOf o).any fun e => Nat.beq e j || behind ops f e j
    | none => false
theorem behind_spec {ops : List Oper} {listed : Nat → Prop} (hc : ∀ j o, listed j → ops[j]? = some o → ∀ e ∈ depsOf o, listed e) : ∀ {f i j : Nat} {o : Oper}, behind ops f i j = true → ops[i]? = some o → (∀ e ∈ depsOf o, listed e) → listed j
  | 0, _, _, _, h, _, _ => by cases h
  | f + 1, i, j, o, h, ho, hl => by
    unfold behind at h
    rw [ho] at h
    obtain ⟨e, he, h⟩ := List.any_eq_true.1 h
    rcases Bool.or_eq_true_iff.1 h with h | h
    · rw [← Nat.eq_of_beq_eq_true h]; exact hl e he
    · cases hoe : ops[e]? with
      | none => cases f with
        | zero => cases h
        | succ f => unfold behind at h; rw [hoe] at h; cases h
      | some oe => exact behind_spec hc h hoe (hc e oe (hl e he) hoe)
def tailB (ops : List Oper) : Nat → List Oper → Bool
  | _, [] => true
  | k, _ :: l => (List.range k).all (fun j => behind ops 24 k j) && tailB ops (k + 1) l
theorem tailB_spec {ops l : List Oper} : ∀ {k : Nat}, tailB ops k l = true → ∀ i, i < l.length → ∀ j, j < k + i → behind ops 24 (k + i) j = true := by
  induction l with
  | nil => intro k _ i h; simp at h
  | cons p l ih =>
    intro k h i hi j hj
    simp only [tailB, Bool.and_eq_true, List.all_eq_true] at h
    cases i with
    | zero => exact h.1 j (List.mem_range.2 (by omega))
    | succ i =>
      have := ih h.2 i (by simpa using hi) j (by omega)
      rwa [show k + 1 + i = k + (i + 1) by omega] at this
theorem tail_runs {P : Program} {n : Nat} {ops : List Oper} {Q : Exit → List (Nat × Value) → World → Prop} (hlt : depsLt 0 ops = true) : ∀ (tl : List Oper) (k : Nat), ops.drop k = tl → tailB ops k tl = true →
    ∀ (listed : Array Bool) (a : Act) (w : World) (L : List (Nat × Value)), listed.size = ops.length → (∀ j, j < ops.length → (listed.getD j true = true ↔ j < k)) → Ag n L a → SeqR P n ops.toArray (Q .normal) tl L w →
      wpAny P .any ops.toArray (fun e a' w' => ∃ L', Ag n L' a' ∧ Q e L' w') tl.length listed a w
  | [], k, hk, _, listed, a, w, L, hsz, hl, hA, hs => by
    refine ⟨?_, L, hA, hs⟩
    apply List.eq_nil_iff_forall_not_mem.2
    intro i hi
    obtain ⟨h0, o, ho, _⟩ := mem_ready.1 hi
    have hil : i < ops.length := by simpa using (Array.getElem?_eq_some_iff.1 ho).1
    have hkl : ops.length ≤ k := by simpa using hk
    rw [(hl i hil).2 (by omega)] at h0; cases h0
  | o :: tl, k, hk, ht, listed, a, w, L, hsz, hl, hA, hs => by
    have hok : ops[k]? = some o := by
      have : (ops.drop k)[0]? = some o := by rw [hk]; rfl
      simpa using this
    have hkl : k < ops.length := (List.getElem?_eq_some_iff.1 hok).1
    have hdrop : ops.drop (k + 1) = tl := by rw [← List.tail_drop, hk]; rfl
    have ht' := tailB_spec ht
    obtain ⟨hd, hop⟩ := hs
    constructor
    · intro hr
      exfalso
      have : k ∈ Region.ready .any ops.toArray listed := by
        refine mem_ready.2 ⟨?_, o, by simpa using hok, fun e he hb => ?_⟩
        · cases h : listed.getD k true with
          | false => rfl
          | true => exact absurd ((hl k hkl).1 h) (by omega)
        · have hj := depsLt_spec hlt k o hok e.on (mem_depsOf.2 ⟨e, he, hb, rfl⟩)
          have h1 := (hl e.on (by omega)).2 (by omega)
          have h2 : e.on < listed.size := by omega
          simpa [Array.getD_eq_getD_getElem?, h2] using h1
      rw [hr] at this; cases this
    · intro i hi
      obtain ⟨h0, o', ho', hdeps⟩ := mem_ready.1 hi
      have hil : i < ops.length := by simpa using (Array.getElem?_eq_some_iff.1 ho').1
      have hik : ¬ i < k := fun h => by rw [(hl i hil).2 h] at h0; cases h0
      have hi0 : i = k := by
        rcases Nat.lt_or_ge k i with h | h
        · exfalso
          have hlen : (o :: tl).length = ops.length - k := by rw [← hk, List.length_drop]
          have hb := ht' (i - k) (by omega) k (by omega)
          rw [show k + (i - k) = i by omega] at hb
          have h3 : k < ops.length ∧ k < k := behind_spec (listed := fun j => j < ops.length ∧ j < k) (fun j oj hj hoj e he => by
            have := depsLt_spec hlt j oj hoj e he
            omega) hb (by simpa using ho') (fun e he => by
            obtain ⟨e', he', hb', rfl⟩ := mem_depsOf.1 he
            have h4 := hdeps e' he' hb'
            have h5 := depsLt_spec hlt i o' (by simpa using ho') e'.on he
            have h6 : e'.on < listed.size := by omega
            have h7 : listed.getD e'.on true = true := by simpa [Array.getD_eq_getD_getElem?, h6] using h4
            exact ⟨by omega, (hl _ (by omega)).1 h7⟩)
          omega
        · omega
      subst hi0
      have ho2 : ops[i]? = some o' := by simpa using ho'
      rw [hok] at ho2
      have hoe : o = o' := Option.some.inj ho2
      subst hoe
      refine OpR.wpOp (o := o) (by simpa using hok) hA hop fun v w' hv => ?_
      refine tail_runs hlt tl (i + 1) hdrop ?_ _ _ _ _ (by simpa using hsz) ?_ (hA.putL hd v) hv
      · simp only [tailB, Bool.and_eq_true] at ht; exact ht.2
      · intro j hj
        by_cases hij : i = j
        · subst hij
          have : i < listed.size := by omega
          simp [this]
        · rw [getD_set_ne true hij, hl j hj]
          omega
theorem CW.drawsI {P : Program} {n id : Nat} {ops : List Oper} {Q : Exit → List (Nat × Value) → World → Prop} {L0 : List (Nat × Value)} {w0 : World} (m : Nat) (V : Nat → Nat → Nat → Value → World → Prop)
    (hm : P.follows .mixedOrders = true) (hd : ops.all (dstOk n) = true) (hu : uniqB ops = true) (hlt : depsLt 0 ops = true) (hL0 : L0.all (fun p => Nat.blt p.1 n) = true) (hml : Nat.ble m ops.length = true) (htl : tailB ops m (ops.drop m) = true)
    (hV : ∀ i lo hi v w w', V i lo hi v w → Ex w w' → V i lo hi v w') (hops : HopsI P ops L0 w0 V 0 (ops.take m)) (hK : ∀ lo hi L w, PastI ops m L0 w0 V lo hi L w → SeqR P n ops.toArray (Q .normal) (ops.drop m) L w) : CW P n (.region id ops.toArray true) Q L0 w0 := by
  intro a0 hA0
  refine wp_region_any hm ?_
  have hu' := uniqB_spec hu
  have hlt' := depsLt_spec hlt
  have hml' : m ≤ ops.length := Nat.le_of_ble_eq_true hml
  have htl' := tailB_spec htl
  have htn : ∀ t v, lkp L0 t = some v → t < n := by
    intro t v hv
    have hmem : ∀ (l : List (Nat × Value)), lkp l t = some v → ∃ p ∈ l, p.1 = t := by
      intro l
      induction l with
      | nil => intro h; cases h
      | cons p l ih =>
        intro h
        obtain ⟨q, u⟩ := p
        simp only [lkp] at h
        by_cases hq : q = t
        · exact ⟨(q, u), by simp, hq⟩
        · rw [beq_ne hq] at h
          obtain ⟨p, hp, hp'⟩ := ih h
          exact ⟨p, by simp [hp], hp'⟩
    obtain ⟨p, hp, rfl⟩ := hmem L0 hv
    simpa [Nat.blt_eq] using List.all_eq_true.1 hL0 p hp
  have fin : ∀ (listed : Array Bool) (a : Act) (w : World) (fl fh : Nat → Nat) (fuel : Nat), listed.size = ops.length → fuel = (ops.drop m).length → Ex w0 w → a.defers = [] → a.tmps.size = n →
      (∀ j, listed.getD j false = true → w0.heap.size ≤ fl j ∧ fl j ≤ fh j ∧ fh j ≤ w.heap.size) → (∀ i j, listed.getD i false = true → listed.getD j false = true → i ≠ j → fh i ≤ fl j ∨ fh j ≤ fl i) →
      (∀ j o d, listed.getD j false = true → ops[j]? = some o → o.dst = some d → V j (fl j) (fh j) (a.tmps.getD d undef) w) →
      (∀ t v, lkp L0 t = some v → (∀ j o, listed.getD j false = true → ops[j]? = some o → o.dst ≠ some t) → a.tmps.getD t undef = v) →
      (∀ j, j < ops.length → (listed.getD j true = true ↔ j < m)) →
      wpAny P .any ops.toArray (fun e a' w' => ∃ L', Ag n L' a' ∧ Q e L' w') fuel listed a w := by
    intro listed a w fl fh fuel hsz hfu hE hdf hts hr1 hs1 h1 h2 hl
    subst hfu
    have hlm : ∀ j, Nat.blt j m = true → listed.getD j false = true := by
      intro j hj
      have hj' : j < m := by simpa [Nat.blt_eq] using hj
      have := (hl j (by omega)).2 hj'
      have h2 : j < listed.size := by omega
      simpa [Array.getD_eq_getD_getElem?, h2] using this
    refine tail_runs hlt (ops.drop m) m rfl htl listed a w (slots n a.tmps) hsz hl ⟨hdf, hts, lkp_slots_inv _ _⟩ (hK fl fh _ _ ⟨hE, fun t v hv hnw => ?_, fun j d hjm hj => ?_, fun j hj => hr1 j (hlm j hj), fun i j hi hj hij => hs1 i j (hlm i hi) (hlm j hj) (fun h => by subst h; rw [Nat.beq_refl] at hij; cases hij)⟩)
    · rw [lkp_slots _ _ _ (htn t v hv)]
      refine congrArg some (h2 t v hv fun j o hj ho hdt => ?_)
      have hjl : j < ops.length := (List.getElem?_eq_some_iff.1 ho).1
      have hjm : j < m := (hl j hjl).1 (by
        have h2 : j < listed.size := by omega
        simpa [Array.getD_eq_getD_getElem?, h2] using hj)
      refine noW_spec hnw o ?_ hdt
      exact List.mem_of_getElem? (i := j) (by rw [List.getElem?_take_of_lt hjm]; exact ho)
    · cases ho : ops[j]? with
      | none => simp [ho] at hj
      | some o =>
        simp [ho] at hj
        have hdn : d < n := by
          have := List.all_eq_true.1 hd o (List.mem_of_getElem? ho)
          simpa [dstOk, hj, Nat.blt_eq] using this
        exact ⟨_, lkp_slots _ _ _ hdn, h1 j o d (hlm j hjm) ho hj⟩
  -- the invariant
  have key : ∀ (fuel : Nat) (listed : Array Bool) (a : Act) (w : World) (fl fh : Nat → Nat), listed.size = ops.length → listed.toList.count false = fuel → Ex w0 w → a.defers = [] → a.tmps.size = n →
      (∀ j, j < ops.length → listed.getD j false = true → j < m) → (∀ j, listed.getD j false = true → w0.heap.size ≤ fl j ∧ fl j ≤ fh j ∧ fh j ≤ w.heap.size) → (∀ i j, listed.getD i false = true → listed.getD j false = true → i ≠ j → fh i ≤ fl j ∨ fh j ≤ fl i) →
      (∀ j o d, listed.getD j false = true → ops[j]? = some o → o.dst = some d → V j (fl j) (fh j) (a.tmps.getD d undef) w) →
      (∀ t v, lkp L0 t = some v → (∀ j o, listed.getD j false = true → ops[j]? = some o → o.dst ≠ some t) → a.tmps.getD t undef = v) →
      (∀ j o, listed.getD j false = true → ops[j]? = some o → ∀ e ∈ depsOf o, listed.getD e false = true) →
      wpAny P .any ops.toArray (fun e a' w' => ∃ L', Ag n L' a' ∧ Q e L' w') fuel listed a w := by
    intro fuel
    induction fuel with
    | zero =>
      intro listed a w fl fh hsz hc hE hdf hts hm1 hr1 hs1 h1 h2 h3
      have hall : ∀ i, i < listed.size → listed.getD i false = true := by
        intro i hi
        have hmem : false ∉ listed.toList := List.count_eq_zero.1 hc
        have hg : listed.getD i false = listed[i] := by simp [Array.getD_eq_getD_getElem?, hi]
        rw [hg]
        cases hb : listed[i] with
        | true => rfl
        | false => exact absurd (by rw [← hb]; simp) hmem
      have hnil : ops.drop m = [] := by
        rcases Nat.lt_or_ge m ops.length with h | h
        · exact absurd (hm1 m h (hall m (by omega))) (by omega)
        · exact List.drop_eq_nil_of_le h
      exact fin listed a w fl fh 0 hsz (by rw [hnil]; rfl) hE hdf hts hr1 hs1 h1 h2 (fun j hj => ⟨fun _ => by
        rcases Nat.lt_or_ge j m with h | h
        · exact h
        · have : ops.length ≤ m := by simpa using hnil
          omega, fun _ => by
            have := hall j (by omega)
            have h2 : j < listed.size := by omega
            simpa [Array.getD_eq_getD_getElem?, h2] using this⟩)
    | succ fuel ih =>
      intro listed a w fl fh hsz hc hE hdf hts hm1 hr1 hs1 h1 h2 h3
      by_cases hhd : ∀ j, j < m → listed.getD j false = true
      · refine fin listed a w fl fh (fuel + 1) hsz ?_ hE hdf hts hr1 hs1 h1 h2 (fun j hj => ?_)
        · rw [← hc, List.length_drop]
          have hsplit : listed.toList = List.replicate m true ++ List.replicate (ops.length - m) false := by
            apply List.ext_getElem (by simp; omega)
            intro i h1 h2
            have hi : i < listed.size := by simpa using h1
            rw [List.getElem_append]
            split
            · rename_i him
              have := hhd i (by simpa using him)
              simpa [Array.getD_eq_getD_getElem?, hi] using this
            · rename_i him
              have him : m ≤ i := by simpa using him
              cases hb : listed[i] with
              | false => simp [hb]
              | true => exact absurd (hm1 i (by omega) (by simp [Array.getD_eq_getD_getElem?, hi, hb])) (by omega)
          rw [hsplit, List.count_append]
          simp [List.count_replicate]
        · have hjs : j < listed.size := by omega
          constructor
          · intro h; exact hm1 j hj (by simpa [Array.getD_eq_getD_getElem?, hjs] using h)
          · intro h; have := hhd j h; simpa [Array.getD_eq_getD_getElem?, hjs] using this
      have hfree : ∀ i, i < listed.size → listed.getD i true = false → listed.getD i false = false := by
        intro i hi h; simpa [Array.getD_eq_getD_getElem?, hi] using h
      constructor
      · intro hr
        exfalso
        -- the least operation that is not listed is ready
        have hex : ∃ i, i < ops.length ∧ listed.getD i true = false := by
          have hpos : 0 < listed.toList.count false := by omega
          obtain ⟨i, hi, hb⟩ := List.getElem_of_mem (List.count_pos_iff.1 hpos)
          refine ⟨i, by simpa [hsz] using hi, ?_⟩
          have hi' : i < listed.size := by simpa using hi
          simp only [Array.getElem_toList] at hb
          simp [Array.getD_eq_getD_getElem?, hi', hb]
        have hleast : ∀ k i, i < ops.length → listed.getD i true = false → i ≤ k → ∃ i, i < ops.length ∧ listed.getD i true = false ∧ ∀ j, j < i → listed.getD j true = true := by
          intro k
          induction k with
          | zero => intro i hi h hk; exact ⟨i, hi, h, fun j hj => by omega⟩
          | succ k ihk =>
            intro i hi h hk
            by_cases hh : ∃ j, j < i ∧ listed.getD j true = false
            · obtain ⟨j, hj, hjf⟩ := hh
              exact ihk j (by omega) hjf (by omega)
            · refine ⟨i, hi, h, fun j hj => ?_⟩
              cases hb : listed.getD j true with
              | true => rfl
              | false => exact absurd ⟨j, hj, hb⟩ hh
        obtain ⟨i0, hi0, hf0⟩ := hex
        obtain ⟨i, hi, hf, hl⟩ := hleast i0 i0 hi0 hf0 (Nat.le_refl _)
        have hoi : ops[i]? = some ops[i] := List.getElem?_eq_getElem hi
        have : i ∈ Region.ready .any ops.toArray listed := by
          refine mem_ready.2 ⟨hf, ops[i], by simp, fun e he hb => ?_⟩
          have hej := hlt' i _ hoi e.on (mem_depsOf.2 ⟨e, he, hb, rfl⟩)
          have hes : e.on < listed.size := by omega
          have := hl e.on (by omega)
          simpa [Array.getD_eq_getD_getElem?, hes] using this
        rw [hr] at this
        cases this
      · intro i hi
        obtain ⟨h0, o, ho, hdeps⟩ := mem_ready.1 hi
        have ho' : ops[i]? = some o := by simpa using ho
        have hil : i < ops.length := (List.getElem?_eq_some_iff.1 ho').1
        have his : i < listed.size := by omega
        have h0' := hfree i his h0
        have him : i < m := by
          rcases Nat.lt_or_ge i m with h | h
          · exact h
          · exfalso
            apply hhd
            intro j hj
            have hb := htl' (i - m) (by rw [List.length_drop]; omega) j (by omega)
            rw [show m + (i - m) = i by omega] at hb
            exact behind_spec (listed := fun j => listed.getD j false = true) (fun j oj hj hoj e he => h3 j oj hj hoj e he) hb ho' (fun e he => by
              obtain ⟨e', he', hb', rfl⟩ := mem_depsOf.1 he
              exact hdeps e' he' hb')
        have hop := HopsI.spec hops i o (by rw [List.getElem?_take_of_lt him]; exact ho')
        simp only [Nat.zero_add] at hop
        have hAg : Ag n (slots n a.tmps) a := ⟨hdf, hts, lkp_slots_inv _ _⟩
        have hlean : KnownI ops L0 w0 V i o (slots n a.tmps) w := by
          refine ⟨hE, fun t v hv hfr => ?_, fun j d hj hjd => ?_⟩
          · have htn := htn t v hv
            rw [lkp_slots _ _ _ htn]
            refine congrArg some (h2 t v hv fun j o' hj ho'' hdt => ?_)
            have hf := List.all_eq_true.1 hfr o' (List.mem_of_getElem? ho'')
            rw [hdt] at hf
            simp only [Nat.beq_refl, Bool.not_true, Bool.false_or, List.any_eq_true] at hf
            obtain ⟨e, he, hie⟩ := hf
            have := h3 j o' hj ho'' e he
            rw [← Nat.eq_of_beq_eq_true hie] at this
            rw [h0'] at this; cases this
          · obtain ⟨e, he, hje⟩ := List.any_eq_true.1 hj
            have hje := Nat.eq_of_beq_eq_true hje
            subst hje
            obtain ⟨e', he', hb', rfl⟩ := mem_depsOf.1 he
            have hlj := hdeps e' he' hb'
            cases hoj : ops[e'.on]? with
            | none => simp [hoj] at hjd
            | some oj =>
              simp [hoj] at hjd
              have hdn : d < n := by
                have := List.all_eq_true.1 hd oj (List.mem_of_getElem? hoj)
                simpa [dstOk, hjd, Nat.blt_eq] using this
              have hrr := hr1 _ hlj
              exact ⟨fl e'.on, fh e'.on, _, lkp_slots _ _ _ hdn, hrr.1, hrr.2.1, hrr.2.2, h1 _ oj d hlj hoj hjd⟩
        refine OpR.wpOp (o := o) ho hAg (hop _ _ hlean) fun v w' ⟨hv, hE'⟩ => ?_
        have hset : ∀ j, (listed.setIfInBounds i true).getD j false = true ↔ (j = i ∨ listed.getD j false = true) := by
          intro j
          by_cases hj : i = j
          · subst hj; simp [his]
          · rw [getD_set_ne false hj]
            constructor
            · exact .inr
            · rintro (h | h)
              · exact absurd h.symm hj
              · exact h
        have hdo := List.all_eq_true.1 hd o (List.mem_of_getElem? ho')
        have hAg' := hAg.putL hdo v
        -- the slots behind the operation
        have hput : ∀ t, (a.put o.dst v).tmps.getD t undef = if o.dst = some t then v else a.tmps.getD t undef := by
          intro t
          cases hod : o.dst with
          | none => simp [Act.put]
          | some d =>
            have hdn : d < n := by simpa [dstOk, hod, Nat.blt_eq] using hdo
            show (a.tmps.setIfInBounds d v).getD t undef = _
            rw [getD_set _ _ _ _ (by rw [hts]; exact hdn)]
            simp
        have hsz' := Ex.size hE'
        have hE0 := Ex.size hE
        refine ih _ _ _ (fun j => if j = i then w.heap.size else fl j) (fun j => if j = i then w'.heap.size else fh j) (by simpa using hsz) ?_ (hE.trans hE') hAg'.defers hAg'.size ?_ ?_ ?_ ?_ ?_ ?_
        · have hcs : listed.toList[i]? = some false := by
            have : listed[i] = false := by simpa [Array.getD_eq_getD_getElem?, his] using h0'
            rw [List.getElem?_eq_getElem (by simpa using his)]
            simp [this]
          rw [Array.toList_setIfInBounds]
          have hils : i < listed.toList.length := by simpa using his
          have hge : listed.toList[i] = false := by
            rw [List.getElem?_eq_getElem hils] at hcs; simpa using hcs
          rw [List.count_set hils, hge, hc]
          simp
        · intro j hj hjl
          rcases (hset j).1 hjl with rfl | hj'
          · exact him
          · exact hm1 j hj hj'
        · intro j hj
          by_cases hji : j = i
          · simp only [hji, if_true]; omega
          · simp only [hji, if_false]
            have := hr1 j (((hset j).1 hj).resolve_left hji)
            omega
        · intro j k hj hk hjk
          by_cases hji : j = i
          · have hki : k ≠ i := fun h => hjk (by rw [hji, h])
            simp only [hji, hki, if_true, if_false]
            have := hr1 k (((hset k).1 hk).resolve_left hki)
            omega
          · by_cases hki : k = i
            · simp only [hji, hki, if_true, if_false]
              have := hr1 j (((hset j).1 hj).resolve_left hji)
              omega
            · simp only [hji, hki, if_false]
              exact hs1 j k (((hset j).1 hj).resolve_left hji) (((hset k).1 hk).resolve_left hki) hjk
        · intro j oj d hj hoj hdj
          rw [hput]
          rcases (hset j).1 hj with rfl | hj'
          · rw [ho'] at hoj
            simp only [Option.some.injEq] at hoj
            subst hoj
            rw [if_pos hdj]
            simp only [if_true]
            exact hv
          · by_cases hji : j = i
            · subst hji
              rw [ho'] at hoj
              simp only [Option.some.injEq] at hoj
              subst hoj
              rw [if_pos hdj]
              simp only [if_true]
              exact hv
            · rw [if_neg (fun hh => hji (hu' j i oj o d hoj ho' hdj hh))]
              simp only [hji, if_false]
              exact hV _ _ _ _ _ _ (h1 j oj d hj' hoj hdj) hE'
        · intro t u hu hnw
          rw [hput, if_neg (fun hh => hnw i o ((hset i).2 (.inl rfl)) ho' hh)]
          exact h2 t u hu fun j oj hj hoj => hnw j oj ((hset j).2 (.inr hj)) hoj
        · intro j oj hj hoj e he
          rw [hset]
          rcases (hset j).1 hj with rfl | hj'
          · rw [ho'] at hoj
            simp only [Option.some.injEq] at hoj
            subst hoj
            obtain ⟨e', he', hb', rfl⟩ := mem_depsOf.1 he
            exact .inr (hdeps e' he' hb')
          · exact .inr (h3 j oj hj' hoj e he)
  have hno : ∀ j, (Array.replicate ops.toArray.size false).getD j false = true → False := by
    intro j hj
    simp [Array.getD_eq_getD_getElem?, Array.getElem?_replicate] at hj
    split at hj <;> simp at hj
  refine key ops.toArray.size _ a0 _ (fun _ => 0) (fun _ => 0) (by simp) (by simp) (Ex.drew w0) hA0.defers hA0.size (fun j _ h => (hno j h).elim) (fun j h => (hno j h).elim) (fun i j h => (hno i h).elim) ?_ ?_ ?_
  · intro j o d hj
    simp [Array.getD_eq_getD_getElem?, Array.getElem?_replicate] at hj
    split at hj <;> simp at hj
  · intro t v hv _
    exact hA0.slot t v hv
  · intro j o hj
    simp [Array.getD_eq_getD_getElem?, Array.getElem?_replicate] at hj
    split at hj <;> simp at hj
/-! ### Functions whose body is the toolchain's own -/
def Ext (P : Program) (g : FuncId) (e : Array Value → Sem Value) : Prop := ∃ fn, P.funcs[g]? = some fn ∧ (fn.name == "runtime.NumGoroutine") = false ∧ fn.body.isNone = true ∧ Extern.findNext fn = none ∧ Extern.find fn = some e
theorem yl_ext {P : Program} {o : Oper} {L : List (Nat × Value)} {w : World} {R : Value → World → Prop} {g : FuncId} {e : Array Value → Sem Value} {args : List Operand} {ts : Array TypeId} {vs : List Value} {v : Value} (hx : Ext P g e) (ho : o.op = .call { callee := .value (.func g), args := args.toArray, argTypes := ts })
    (ha : opvs L args = some vs) (hr : (e vs.toArray).run P w = .ok v w) (hR : R v w) : Yl P o L w R := fun ρ hρ => by
  obtain ⟨fn, h1, h2, h3, h4, h5⟩ := hx
  have hm := hρ.map ha
  have hf : ρ (.func g) = .func (.func g) #[] #[] := hρ (.func g) _ rfl
  have e : (execOp ρ o).run P w = .ok (.value v) w := by
    simp [execOp, ho, resolve, hf, Deferred.ofValue, invoke, run_callFunc_extern h1 h2 h3 h4 h5, hm, hr, Result.andThen]
  unfold YlR
  rw [e]
  exact hR
def idxB (s : Str) (c : Int) : Int := Lib.indexByte s c.toNat.toUInt8
theorem yl_idxB {P : Program} {o : Oper} {L : List (Nat × Value)} {w : World} {R : Value → World → Prop} {g : FuncId} {args : List Operand} {ts : Array TypeId} {s : Str} {c : Int} (hx : Ext P g Extern.BytealgIndexByte.indexByte) (ho : o.op = .call { callee := .value (.func g), args := args.toArray, argTypes := ts })
    (ha : opvs L args = some [.string (bs s), .int .u8 c]) (hR : R (.int .i64 (idxB s c)) w) : Yl P o L w R :=
  yl_ext hx ho ha (Lib.run_indexByteString (bs s) c w) hR
theorem okE.nil {α : Type} {ok : α → Prop} : ∀ x ∈ ([] : List α), ok x := fun _ h => by cases h
theorem okE.cons {α : Type} {ok : α → Prop} {x : α} {xs : List α} (h : ok x) (hs : ∀ y ∈ xs, ok y) : ∀ y ∈ x :: xs, ok y := fun y hy => by
  rcases List.mem_cons.1 hy with rfl | hy
  · exact h
  · exact hs y hy
theorem okE.append {α : Type} {ok : α → Prop} {xs ys : List α} (h : ∀ y ∈ xs, ok y) (hs : ∀ y ∈ ys, ok y) : ∀ y ∈ xs ++ ys, ok y := fun y hy => by
  rcases List.mem_append.1 hy with hy | hy
  · exact h y hy
  · exact hs y hy
theorem okL.mk {α : Type} {ok : α → Prop} {xs : List α} (h : xs.length ≤ 2147483648) (hs : ∀ y ∈ xs, ok y) : okL ok xs := ⟨h, hs⟩
theorem OwnL.fix {α : Type} {w : World} {lo hi E sz : Nat} {R : Rel α} {A : Option Addr} {n c : Nat} {xs : List α} (h : OwnL w lo hi E sz R A n c xs) : OwnL w lo hi E sz R A xs.length c xs := by
  obtain rfl := h.1
  exact h
/-! ### What an operation of a drawing region yields -/
def DetI (c : Value) : Nat → Nat → Value → World → Prop := fun _ _ v _ => v = c
def vgetI (Vs : List (Nat → Nat → Value → World → Prop)) (i : Nat) : Nat → Nat → Value → World → Prop := match Vs[i]? with | some V => V | none => fun _ _ _ _ => True
def StableI (V : Nat → Nat → Value → World → Prop) : Prop := ∀ lo hi v w w', V lo hi v w → Ex w w' → V lo hi v w'
theorem StableI.det (c : Value) : StableI (DetI c) := fun _ _ _ _ _ h _ => h
def AllStableI : List (Nat → Nat → Value → World → Prop) → Prop
  | [] => True
  | V :: Vs => StableI V ∧ AllStableI Vs
theorem vgetI_stable {Vs : List (Nat → Nat → Value → World → Prop)} (h : AllStableI Vs) (i lo hi : Nat) (v : Value) (w w' : World) (hv : vgetI Vs i lo hi v w) (e : Ex w w') : vgetI Vs i lo hi v w' := by
  unfold vgetI at *
  induction Vs generalizing i with
  | nil => simp
  | cons V Vs ih =>
    cases i with
    | zero => exact h.1 _ _ _ _ _ hv e
    | succ i => simpa using ih h.2 i (by simpa using hv)
theorem Yl.sameI {P : Program} {o : Oper} {L : List (Nat × Value)} {w : World} {V : Nat → Nat → Value → World → Prop} (h : Yl P o L w fun v w' => (∀ lo hi, V lo hi v w') ∧ w' = w) : Yl P o L w fun v w' => V w.heap.size w'.heap.size v w' ∧ Ex w w' :=
  fun ρ hρ => (h ρ hρ).mono fun _ _ ⟨h1, h2⟩ => ⟨h1 _ _, h2 ▸ Ex.refl _⟩
end Go.X
