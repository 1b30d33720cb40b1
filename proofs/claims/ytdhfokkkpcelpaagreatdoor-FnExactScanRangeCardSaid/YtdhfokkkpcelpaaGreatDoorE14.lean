/- A region that draws its order and whose operations may write into blocks of the call's own. -/
import Derived.Test.YtdhfokkkpcelpaaGreatDoorE13
set_option linter.unusedVariables false
set_option linter.unusedSimpArgs false
namespace Go.X
open Go.RowKit
structure Chg (p : Nat → Prop) (w w' : World) : Prop where
  os : w'.os = w.os
  tape : w'.tape = w.tape
  output : w'.output = w.output
  size : w.heap.size ≤ w'.heap.size
  block : ∀ k, k < w.heap.size → ¬ p k → w'.heap[k]? = w.heap[k]?
section
variable {p q : Nat → Prop} {w w' w0 : World} {α : Type} {R : Rel α} {sz n c : Nat} {A : Option Addr} {xs : List α}
theorem Chg.refl (p : Nat → Prop) (w : World) : Chg p w w := ⟨rfl, rfl, rfl, Nat.le_refl _, fun _ _ _ => rfl⟩
theorem Chg.of_ex (h : Ex w w') : Chg p w w' := ⟨h.os, h.tape, h.output, h.size, fun k hk _ => Below.block h k hk⟩
theorem Chg.of_only {b : Nat} (h : Only b w w') (hb : p b) : Chg p w w' := ⟨h.os, h.tape, h.output, Nat.le_of_eq h.size.symm, fun k _ hp => h.block k (fun e => hp (e ▸ hb))⟩
theorem Chg.imp (h : Chg p w w') (hq : ∀ b, b < w.heap.size → p b → q b) : Chg q w w' := ⟨h.os, h.tape, h.output, h.size, fun k hk hn => h.block k hk (fun hp => hn (hq k hk hp))⟩
theorem Chg.trans (h : Chg p w0 w) (k : Chg p w w') : Chg p w0 w' :=
  ⟨k.os.trans h.os, k.tape.trans h.tape, k.output.trans h.output, Nat.le_trans h.size k.size, fun i hi hp => (k.block i (Nat.lt_of_lt_of_le hi h.size) hp).trans (h.block i hi hp)⟩
theorem Chg.ex (h : Chg p w w') (hp : ∀ b, p b → w.heap.size ≤ b) : Ex w w' := ⟨h.os, h.tape, h.output, h.size, fun k hk => h.block k hk (fun hh => absurd (hp k hh) (by omega))⟩
theorem Ex.chg (h : Ex w0 w) (e : Chg p w w') (hp : ∀ b, p b → w0.heap.size ≤ b) : Ex w0 w' := (Chg.trans (p := p) (Chg.of_ex h) e).ex hp
theorem Box.chg {b : Nat} {T : TypeId} {cs : List Value} (h : Box w b T cs) (e : Chg p w w') (hp : ¬ p b) : Box w' b T cs := (e.block b h.lt hp).trans h
theorem RdS.chg {S : Nat → Prop} (hg : Gd R) (h : RdS w S R sz A n c xs) (e : Chg p w w') (hp : ∀ b, b < w.heap.size → p b → ¬ S b) : RdS w' S R sz A n c xs := h.keep hg fun b hb hl => e.block b hl fun hh => hp b hl hh hb
theorem OwnL.chg {lo hi E : Nat} (hg : Gd R) (h : OwnL w lo hi E sz R A n c xs) (e : Chg p w w') (hp : ∀ b, b < w.heap.size → p b → b < lo ∨ hi ≤ b) : OwnL w' lo hi E sz R A n c xs :=
  ⟨h.1, h.2.imp id fun h => OwnN.keep hg h fun b h1 h2 hl => e.block b hl fun hh => by have := hp b hl hh; omega⟩
end
theorem OwnL.rdI {α : Type} {w : World} {lo hi E sz : Nat} {R : Rel α} {A : Option Addr} {n c : Nat} {xs : List α} (hg : Gd R) (h : OwnL w lo hi E sz R A n c xs) : RdS w (Iv lo hi) R sz A n c xs := by
  rcases h.2 with ⟨h0, hc⟩ | h2
  · have hx : xs = [] := List.eq_nil_of_length_eq_zero (by rw [← h.1, h0])
    subst hx; subst h0; subst hc
    exact RdS.nil _ _ _ _ _ _ (by decide)
  · obtain ⟨e2, S, cells, ho, he, h3, h4⟩ := h2
    obtain ⟨f1, f2, hf⟩ := ho.form
    refine ⟨h.1, f1, ⟨f2, ho.2⟩, cells, he.mono fun c x hx => hg.wide hx fun b hb _ => h4 b hb, ?_⟩
    rcases hf with ⟨hA, h0⟩ | ⟨g, hA, hlo, hlt⟩
    · exact .inl (List.eq_nil_of_length_eq_zero (by rw [← h.1, h0]))
    · right
      subst hA
      exact ⟨g, 0, rfl, e2 g rfl, hlt, ho.cells⟩
structure Gh where
  fl : Nat → Nat
  fh : Nat → Nat
  dn : Nat → Bool
def Gh.upd (G : Gh) (i lo hi : Nat) : Gh := ⟨fun j => if j = i then lo else G.fl j, fun j => if j = i then hi else G.fh j, fun j => Nat.beq j i || G.dn j⟩
section
variable {G : Gh} {i k lo hi : Nat}
theorem Gh.ne (h : G.dn k = true) (hi : G.dn i = false) : k ≠ i := fun e => by rw [e, hi] at h; cases h
theorem Gh.ufl (h : G.dn k = true) (hi' : G.dn i = false) : (G.upd i lo hi).fl k = G.fl k := if_neg (Gh.ne h hi')
theorem Gh.ufh (h : G.dn k = true) (hi' : G.dn i = false) : (G.upd i lo hi).fh k = G.fh k := if_neg (Gh.ne h hi')
theorem Gh.sfl : (G.upd i lo hi).fl i = lo := if_pos rfl
theorem Gh.sfh : (G.upd i lo hi).fh i = hi := if_pos rfl
theorem Gh.sdn : (G.upd i lo hi).dn i = true := by show (Nat.beq i i || _) = true; rw [Nat.beq_refl]; rfl
theorem Gh.udn (h : G.dn k = true) : (G.upd i lo hi).dn k = true := by show (_ || G.dn k) = true; rw [h, Bool.or_true]
theorem Gh.off (h : (G.upd i lo hi).dn k = false) : k ≠ i ∧ G.dn k = false := by
  have h : (Nat.beq k i || G.dn k) = false := h
  obtain ⟨h1, h2⟩ := Bool.or_eq_false_iff.1 h
  exact ⟨fun e => (by rw [e, Nat.beq_refl] at h1; cases h1), h2⟩
end
structure StG (ops : List Oper) (w0 : World) (p0 : Gh → Nat → Prop) (G : Gh) (w : World) : Prop where
  ex : Chg (fun b => p0 G b ∨ w0.heap.size ≤ b) w0 w
  rng : ∀ j, G.dn j = true → w0.heap.size ≤ G.fl j ∧ G.fl j ≤ G.fh j ∧ G.fh j ≤ w.heap.size
  sep : ∀ i j, G.dn i = true → G.dn j = true → Nat.beq i j = false → G.fh i ≤ G.fl j ∨ G.fh j ≤ G.fl i
  cl : ∀ j k, G.dn j = true → behind ops 24 j k = true → G.dn k = true
  ord : ∀ j k, G.dn j = true → behind ops 24 j k = true → G.fh k ≤ G.fl j
structure KnownG (ops : List Oper) (L0 : List (Nat × Value)) (w0 : World) (p0 : Gh → Nat → Prop) (V : Nat → Gh → Value → World → Prop) (i : Nat) (L : List (Nat × Value)) (w : World) (G : Gh) : Prop where
  st : StG ops w0 p0 G w
  old : ∀ t v, lkp L0 t = some v → freeB i t ops = true → lkp L t = some v
  val : ∀ j d, behind ops 24 i j = true → (ops[j]?).bind (·.dst) = some d → ∃ v, lkp L d = some v ∧ V j G v w
  fact : ∀ j, behind ops 24 i j = true → ∃ v, V j G v w
  has : ∀ j, behind ops 24 i j = true → G.dn j = true
  new : G.dn i = false
def HopsG (P : Program) (ops : List Oper) (L0 : List (Nat × Value)) (w0 : World) (p0 : Gh → Nat → Prop) (Stp : Nat → Gh → Nat → Prop) (V : Nat → Gh → Value → World → Prop) : Nat → List Oper → Prop
  | _, [] => True
  | i, o :: l => (∀ L w G, KnownG ops L0 w0 p0 V i L w G → OpR P ops.toArray o L w fun v w' => Chg (Stp i G) w w' ∧ V i (G.upd i w.heap.size w'.heap.size) v w') ∧ HopsG P ops L0 w0 p0 Stp V (i + 1) l
theorem HopsG.spec {P : Program} {ops : List Oper} {L0 : List (Nat × Value)} {w0 : World} {p0 : Gh → Nat → Prop} {Stp : Nat → Gh → Nat → Prop} {V : Nat → Gh → Value → World → Prop} : ∀ {l : List Oper} {k : Nat}, HopsG P ops L0 w0 p0 Stp V k l → ∀ i o, l[i]? = some o → ∀ L w G, KnownG ops L0 w0 p0 V (k + i) L w G → OpR P ops.toArray o L w fun v w' => Chg (Stp (k + i) G) w w' ∧ V (k + i) (G.upd (k + i) w.heap.size w'.heap.size) v w'
  | [], _, _, i, o, hi => by simp at hi
  | p :: l, k, h, i, o, hi => by
    cases i with
    | zero => simp at hi; subst hi; exact h.1
    | succ i =>
      have := HopsG.spec h.2 i o (by simpa using hi)
      rwa [show k + 1 + i = k + (i + 1) by omega] at this
structure PastG (ops : List Oper) (m : Nat) (L0 : List (Nat × Value)) (w0 : World) (p0 : Gh → Nat → Prop) (V : Nat → Gh → Value → World → Prop) (L : List (Nat × Value)) (w : World) (G : Gh) : Prop where
  st : StG ops w0 p0 G w
  old : ∀ t v, lkp L0 t = some v → noW t (ops.take m) = true → lkp L t = some v
  val : ∀ j d, Nat.blt j m = true → (ops[j]?).bind (·.dst) = some d → ∃ v, lkp L d = some v ∧ V j G v w
  fact : ∀ j, Nat.blt j m = true → ∃ v, V j G v w
  has : ∀ j, Nat.blt j m = true → G.dn j = true
theorem CW.drawsG {P : Program} {n id : Nat} {ops : List Oper} {Q : Exit → List (Nat × Value) → World → Prop} {L0 : List (Nat × Value)} {w0 : World} (m : Nat) (p0 : Gh → Nat → Prop) (Stp : Nat → Gh → Nat → Prop) (V : Nat → Gh → Value → World → Prop)
    (hm : P.follows .mixedOrders = true) (hd : ops.all (dstOk n) = true) (hu : uniqB ops = true) (hlt : depsLt 0 ops = true) (hL0 : L0.all (fun p => Nat.blt p.1 n) = true) (hml : Nat.ble m ops.length = true) (htl : tailB ops m (ops.drop m) = true)
    (hp0 : ∀ i G lo hi b, p0 G b → p0 (G.upd i lo hi) b) (hst : ∀ i G w lo hi b, StG ops w0 p0 G w → G.dn i = false → (∀ k, behind ops 24 i k = true → G.dn k = true) → Stp i G b → p0 (G.upd i lo hi) b ∨ w0.heap.size ≤ b)
    (hV : ∀ i j G v w w', StG ops w0 p0 G w → G.dn i = false → (∀ k, behind ops 24 i k = true → G.dn k = true) → G.dn j = true → V j G v w → Chg (Stp i G) w w' → V j (G.upd i w.heap.size w'.heap.size) v w')
    (hops : HopsG P ops L0 w0 p0 Stp V 0 (ops.take m)) (hK : ∀ G L w, PastG ops m L0 w0 p0 V L w G → SeqR P n ops.toArray (Q .normal) (ops.drop m) L w) : CW P n (.region id ops.toArray true) Q L0 w0 := by
  intro a0 hA0
  refine wp_region_any hm ?_
  have hu' := uniqB_spec hu
  have hlt' := depsLt_spec hlt
  have hml' : m ≤ ops.length := Nat.le_of_ble_eq_true hml
  have htl' := tailB_spec htl
  have htn : ∀ t v, lkp L0 t = some v → t < n := by
    intro t v hv
    have hmem : ∀ (l : List (Nat × Value)), lkp l t = some v → ∃ p ∈ l, p.1 = t := by
      intro l
      induction l with
      | nil => intro h; cases h
      | cons p l ih =>
        intro h
        obtain ⟨q, u⟩ := p
        simp only [lkp] at h
        by_cases hq : q = t
        · exact ⟨(q, u), by simp, hq⟩
        · rw [beq_ne hq] at h
          obtain ⟨p, hp, hp'⟩ := ih h
          exact ⟨p, by simp [hp], hp'⟩
    obtain ⟨p, hp, rfl⟩ := hmem L0 hv
    simpa [Nat.blt_eq] using List.all_eq_true.1 hL0 p hp
  have hdst : ∀ (j d : Nat) (o : Oper), ops[j]? = some o → o.dst = some d → d < n := fun j d o ho hj => by
    have := List.all_eq_true.1 hd o (List.mem_of_getElem? ho)
    simpa [dstOk, hj, Nat.blt_eq] using this
  -- what is kept
  let Inv : Act → World → Gh → Prop := fun a w G => StG ops w0 p0 G w ∧ a.defers = [] ∧ a.tmps.size = n ∧
      (∀ j, G.dn j = true → ∃ v, (∀ o d, ops[j]? = some o → o.dst = some d → a.tmps.getD d undef = v) ∧ V j G v w) ∧
      (∀ t v, lkp L0 t = some v → (∀ j o, G.dn j = true → ops[j]? = some o → o.dst ≠ some t) → a.tmps.getD t undef = v)
  have fin : ∀ (listed : Array Bool) (a : Act) (w : World) (G : Gh) (fuel : Nat), listed.size = ops.length → fuel = (ops.drop m).length → (∀ j, j < ops.length → listed.getD j false = G.dn j) → Inv a w G →
      (∀ j, j < ops.length → (listed.getD j true = true ↔ j < m)) →
      wpAny P .any ops.toArray (fun e a' w' => ∃ L', Ag n L' a' ∧ Q e L' w') fuel listed a w := by
    intro listed a w G fuel hsz hfu hld hI hl
    obtain ⟨hS, hdf, hts, h1, h2⟩ := hI
    subst hfu
    have hG : ∀ j, j < ops.length → (G.dn j = true ↔ j < m) := by
      intro j hj
      rw [← hl j hj, ← hld j hj]
      have h2 : j < listed.size := by omega
      simp [Array.getD_eq_getD_getElem?, h2]
    have hGm : ∀ j, Nat.blt j m = true → G.dn j = true := by
      intro j hj
      have hj' : j < m := by simpa [Nat.blt_eq] using hj
      exact (hG j (by omega)).2 hj'
    refine tail_runs hlt (ops.drop m) m rfl htl listed a w (slots n a.tmps) hsz hl ⟨hdf, hts, lkp_slots_inv _ _⟩ (hK G _ _ ⟨hS, fun t v hv hnw => ?_, fun j d hjm hj => ?_, fun j hj => ?_, hGm⟩)
    · rw [lkp_slots _ _ _ (htn t v hv)]
      refine congrArg some (h2 t v hv fun j o hj ho hdt => ?_)
      have hjl : j < ops.length := (List.getElem?_eq_some_iff.1 ho).1
      have hjm : j < m := (hG j hjl).1 hj
      refine noW_spec hnw o ?_ hdt
      exact List.mem_of_getElem? (i := j) (by rw [List.getElem?_take_of_lt hjm]; exact ho)
    · cases ho : ops[j]? with
      | none => simp [ho] at hj
      | some o =>
        simp [ho] at hj
        obtain ⟨v, hv, hV⟩ := h1 j (hGm j hjm)
        exact ⟨v, by rw [lkp_slots _ _ _ (hdst j d o ho hj), hv o d ho hj], hV⟩
    · obtain ⟨v, _, hV⟩ := h1 j (hGm j hj)
      exact ⟨v, hV⟩
  have key : ∀ (fuel : Nat) (listed : Array Bool) (a : Act) (w : World) (G : Gh), listed.size = ops.length → listed.toList.count false = fuel → (∀ j, j < ops.length → listed.getD j false = G.dn j) → (∀ j, ops.length ≤ j → G.dn j = false) → Inv a w G →
      (∀ j, j < ops.length → listed.getD j false = true → j < m) →
      (∀ j o, listed.getD j false = true → ops[j]? = some o → ∀ e ∈ depsOf o, listed.getD e false = true) →
      wpAny P .any ops.toArray (fun e a' w' => ∃ L', Ag n L' a' ∧ Q e L' w') fuel listed a w := by
    intro fuel
    induction fuel with
    | zero =>
      intro listed a w G hsz hc hld hlo hI hm1 h3
      have hall : ∀ i, i < listed.size → listed.getD i false = true := by
        intro i hi
        have hmem : false ∉ listed.toList := List.count_eq_zero.1 hc
        have hg : listed.getD i false = listed[i] := by simp [Array.getD_eq_getD_getElem?, hi]
        rw [hg]
        cases hb : listed[i] with
        | true => rfl
        | false => exact absurd (by rw [← hb]; simp) hmem
      have hnil : ops.drop m = [] := by
        rcases Nat.lt_or_ge m ops.length with h | h
        · exact absurd (hm1 m h (hall m (by omega))) (by omega)
        · exact List.drop_eq_nil_of_le h
      exact fin listed a w G 0 hsz (by rw [hnil]; rfl) hld hI (fun j hj => ⟨fun _ => by
        rcases Nat.lt_or_ge j m with h | h
        · exact h
        · have : ops.length ≤ m := by simpa using hnil
          omega, fun _ => by
            have := hall j (by omega)
            have h2 : j < listed.size := by omega
            simpa [Array.getD_eq_getD_getElem?, h2] using this⟩)
    | succ fuel ih =>
      intro listed a w G hsz hc hld hlo hI hm1 h3
      by_cases hhd : ∀ j, j < m → listed.getD j false = true
      · refine fin listed a w G (fuel + 1) hsz ?_ hld hI (fun j hj => ?_)
        · rw [← hc, List.length_drop]
          have hsplit : listed.toList = List.replicate m true ++ List.replicate (ops.length - m) false := by
            apply List.ext_getElem (by simp; omega)
            intro i h1 h2
            have hi : i < listed.size := by simpa using h1
            rw [List.getElem_append]
            split
            · rename_i him
              have := hhd i (by simpa using him)
              simpa [Array.getD_eq_getD_getElem?, hi] using this
            · rename_i him
              have him : m ≤ i := by simpa using him
              cases hb : listed[i] with
              | false => simp [hb]
              | true => exact absurd (hm1 i (by omega) (by simp [Array.getD_eq_getD_getElem?, hi, hb])) (by omega)
          rw [hsplit, List.count_append]
          simp [List.count_replicate]
        · have hjs : j < listed.size := by omega
          constructor
          · intro h; exact hm1 j hj (by simpa [Array.getD_eq_getD_getElem?, hjs] using h)
          · intro h; have := hhd j h; simpa [Array.getD_eq_getD_getElem?, hjs] using this
      have hfree : ∀ i, i < listed.size → listed.getD i true = false → listed.getD i false = false := by
        intro i hi h; simpa [Array.getD_eq_getD_getElem?, hi] using h
      constructor
      · intro hr
        exfalso
        have hex : ∃ i, i < ops.length ∧ listed.getD i true = false := by
          have hpos : 0 < listed.toList.count false := by omega
          obtain ⟨i, hi, hb⟩ := List.getElem_of_mem (List.count_pos_iff.1 hpos)
          refine ⟨i, by simpa [hsz] using hi, ?_⟩
          have hi' : i < listed.size := by simpa using hi
          simp only [Array.getElem_toList] at hb
          simp [Array.getD_eq_getD_getElem?, hi', hb]
        have hleast : ∀ k i, i < ops.length → listed.getD i true = false → i ≤ k → ∃ i, i < ops.length ∧ listed.getD i true = false ∧ ∀ j, j < i → listed.getD j true = true := by
          intro k
          induction k with
          | zero => intro i hi h hk; exact ⟨i, hi, h, fun j hj => by omega⟩
          | succ k ihk =>
            intro i hi h hk
            by_cases hh : ∃ j, j < i ∧ listed.getD j true = false
            · obtain ⟨j, hj, hjf⟩ := hh
              exact ihk j (by omega) hjf (by omega)
            · refine ⟨i, hi, h, fun j hj => ?_⟩
              cases hb : listed.getD j true with
              | true => rfl
              | false => exact absurd ⟨j, hj, hb⟩ hh
        obtain ⟨i0, hi0, hf0⟩ := hex
        obtain ⟨i, hi, hf, hl⟩ := hleast i0 i0 hi0 hf0 (Nat.le_refl _)
        have hoi : ops[i]? = some ops[i] := List.getElem?_eq_getElem hi
        have : i ∈ Region.ready .any ops.toArray listed := by
          refine mem_ready.2 ⟨hf, ops[i], by simp, fun e he hb => ?_⟩
          have hej := hlt' i _ hoi e.on (mem_depsOf.2 ⟨e, he, hb, rfl⟩)
          have hes : e.on < listed.size := by omega
          have := hl e.on (by omega)
          simpa [Array.getD_eq_getD_getElem?, hes] using this
        rw [hr] at this
        cases this
      · intro i hi
        obtain ⟨h0, o, ho, hdeps⟩ := mem_ready.1 hi
        have ho' : ops[i]? = some o := by simpa using ho
        have hil : i < ops.length := (List.getElem?_eq_some_iff.1 ho').1
        have his : i < listed.size := by omega
        have h0' := hfree i his h0
        have him : i < m := by
          rcases Nat.lt_or_ge i m with h | h
          · exact h
          · exfalso
            apply hhd
            intro j hj
            have hb := htl' (i - m) (by rw [List.length_drop]; omega) j (by omega)
            rw [show m + (i - m) = i by omega] at hb
            exact behind_spec (listed := fun j => listed.getD j false = true) (fun j oj hj hoj e he => h3 j oj hj hoj e he) hb ho' (fun e he => by
              obtain ⟨e', he', hb', rfl⟩ := mem_depsOf.1 he
              exact hdeps e' he' hb')
        obtain ⟨hS, hdf, hts, h1, h2⟩ := hI
        have hop := HopsG.spec hops i o (by rw [List.getElem?_take_of_lt him]; exact ho')
        simp only [Nat.zero_add] at hop
        have hAg : Ag n (slots n a.tmps) a := ⟨hdf, hts, lkp_slots_inv _ _⟩
        have hGi : G.dn i = false := by rw [← hld i hil]; exact h0'
        have hdl : ∀ j, listed.getD j false = true → G.dn j = true := by
          intro j hj
          rcases Nat.lt_or_ge j ops.length with h | h
          · rw [← hld j h]; exact hj
          · have : ¬ j < listed.size := by omega
            simp [Array.getD_eq_getD_getElem?, this] at hj
        have hhas : ∀ k, behind ops 24 i k = true → G.dn k = true := fun k hb =>
          hdl k (behind_spec (listed := fun j => listed.getD j false = true) (fun j oj hj hoj e he => h3 j oj hj hoj e he) hb ho' (fun e he => by
              obtain ⟨e', he', hb', rfl⟩ := mem_depsOf.1 he
              exact hdeps e' he' hb'))
        have hlean : KnownG ops L0 w0 p0 V i (slots n a.tmps) w G := by
          refine ⟨hS, fun t v hv hfr => ?_, fun j d hj hjd => ?_, fun j hj => ?_, hhas, hGi⟩
          · have htn := htn t v hv
            rw [lkp_slots _ _ _ htn]
            refine congrArg some (h2 t v hv fun j o' hj ho'' hdt => ?_)
            have hf := List.all_eq_true.1 hfr o' (List.mem_of_getElem? ho'')
            rw [hdt] at hf
            simp only [Nat.beq_refl, Bool.not_true, Bool.false_or, List.any_eq_true] at hf
            obtain ⟨e, he, hie⟩ := hf
            have hjl : j < ops.length := (List.getElem?_eq_some_iff.1 ho'').1
            have := h3 j o' (by rw [hld j hjl]; exact hj) ho'' e he
            rw [← Nat.eq_of_beq_eq_true hie] at this
            rw [h0'] at this; cases this
          · cases hoj : ops[j]? with
            | none => simp [hoj] at hjd
            | some oj =>
              simp [hoj] at hjd
              obtain ⟨v, hv, hVj⟩ := h1 j (hhas j hj)
              exact ⟨v, by rw [lkp_slots _ _ _ (hdst j d oj hoj hjd), hv oj d hoj hjd], hVj⟩
          · obtain ⟨v, _, hVj⟩ := h1 j (hhas j hj)
            exact ⟨v, hVj⟩
        refine OpR.wpOp (o := o) ho hAg (hop _ _ _ hlean) fun v w' ⟨hE', hv⟩ => ?_
        have hset : ∀ j, (listed.setIfInBounds i true).getD j false = true ↔ (j = i ∨ listed.getD j false = true) := by
          intro j
          by_cases hj : i = j
          · subst hj; simp [his]
          · rw [getD_set_ne false hj]
            constructor
            · exact .inr
            · rintro (h | h)
              · exact absurd h.symm hj
              · exact h
        have hdo := List.all_eq_true.1 hd o (List.mem_of_getElem? ho')
        have hAg' := hAg.putL hdo v
        have hput : ∀ t, (a.put o.dst v).tmps.getD t undef = if o.dst = some t then v else a.tmps.getD t undef := by
          intro t
          cases hod : o.dst with
          | none => simp [Act.put]
          | some d =>
            have hdn : d < n := by simpa [dstOk, hod, Nat.blt_eq] using hdo
            show (a.tmps.setIfInBounds d v).getD t undef = _
            rw [getD_set _ _ _ _ (by rw [hts]; exact hdn)]
            simp
        have hsz' := hE'.size
        have hE0 := hS.ex.size
        have hdu : ∀ j, (G.upd i w.heap.size w'.heap.size).dn j = true ↔ (j = i ∨ G.dn j = true) := by
          intro j
          show (Nat.beq j i || G.dn j) = true ↔ _
          rw [Bool.or_eq_true]
          constructor
          · exact fun h => h.imp Nat.eq_of_beq_eq_true (fun x => x)
          · exact fun h => h.imp (fun e => by rw [e, Nat.beq_refl]) (fun x => x)
        refine ih _ _ _ (G.upd i w.heap.size w'.heap.size) (by simpa using hsz) ?_ ?_ ?_ ⟨⟨?_, ?_, ?_, ?_, ?_⟩, hAg'.defers, hAg'.size, ?_, ?_⟩ ?_ ?_
        · have hcs : listed.toList[i]? = some false := by
            have : listed[i] = false := by simpa [Array.getD_eq_getD_getElem?, his] using h0'
            rw [List.getElem?_eq_getElem (by simpa using his)]
            simp [this]
          rw [Array.toList_setIfInBounds]
          have hils : i < listed.toList.length := by simpa using his
          have hge : listed.toList[i] = false := by
            rw [List.getElem?_eq_getElem hils] at hcs; simpa using hcs
          rw [List.count_set hils, hge, hc]
          simp
        · intro j hj
          rw [Bool.eq_iff_iff, hset, hdu, hld j hj]
        · intro j hj
          have h1 := hlo j hj
          have h2 : j ≠ i := by omega
          show (Nat.beq j i || G.dn j) = false
          rw [h1, Bool.or_false]
          exact beq_ne h2
        · exact (hS.ex.imp fun b _ hb => hb.imp (hp0 _ _ _ _ _) (fun x => x)).trans (hE'.imp fun b _ hb => hst i G w _ _ b hS hGi hhas hb)
        · intro j hj
          by_cases hji : j = i
          · subst hji
            rw [Gh.sfl, Gh.sfh]
            omega
          · have hj' := ((hdu j).1 hj).resolve_left hji
            rw [Gh.ufl hj' hGi, Gh.ufh hj' hGi]
            have := hS.rng j hj'
            omega
        · intro j k hj hk hjk
          have hne : j ≠ k := fun e => by rw [e, Nat.beq_refl] at hjk; cases hjk
          by_cases hji : j = i
          · subst hji
            have hk' := ((hdu k).1 hk).resolve_left (fun h => hne h.symm)
            rw [Gh.sfl, Gh.sfh, Gh.ufl hk' hGi, Gh.ufh hk' hGi]
            have := hS.rng k hk'
            omega
          · have hj' := ((hdu j).1 hj).resolve_left hji
            by_cases hki : k = i
            · subst hki
              rw [Gh.sfl, Gh.sfh, Gh.ufl hj' hGi, Gh.ufh hj' hGi]
              have := hS.rng j hj'
              omega
            · have hk' := ((hdu k).1 hk).resolve_left hki
              rw [Gh.ufl hj' hGi, Gh.ufh hj' hGi, Gh.ufl hk' hGi, Gh.ufh hk' hGi]
              exact hS.sep j k hj' hk' hjk
        · intro j k hj hb
          rcases (hdu j).1 hj with rfl | hj'
          · exact Gh.udn (hhas k hb)
          · exact Gh.udn (hS.cl j k hj' hb)
        · intro j k hj hb
          rcases (hdu j).1 hj with rfl | hj'
          · rw [Gh.sfl, Gh.ufh (hhas k hb) hGi]
            exact (hS.rng k (hhas k hb)).2.2
          · have hk' := hS.cl j k hj' hb
            rw [Gh.ufl hj' hGi, Gh.ufh hk' hGi]
            exact hS.ord j k hj' hb
        · intro j hj
          by_cases hji : j = i
          · subst hji
            refine ⟨v, fun oj d hoj hdj => ?_, hv⟩
            rw [ho'] at hoj
            simp only [Option.some.injEq] at hoj
            subst hoj
            rw [hput, if_pos hdj]
          · have hj' := ((hdu j).1 hj).resolve_left hji
            obtain ⟨u, hu1, hVj⟩ := h1 j hj'
            refine ⟨u, fun oj d hoj hdj => ?_, hV i j G u w w' hS hGi hhas hj' hVj hE'⟩
            rw [hput, if_neg (fun hh => hji (hu' j i oj o d hoj ho' hdj hh))]
            exact hu1 oj d hoj hdj
        · intro t u hu hnw
          rw [hput, if_neg (fun hh => hnw i o ((hdu i).2 (.inl rfl)) ho' hh)]
          exact h2 t u hu fun j oj hj hoj => hnw j oj ((hdu j).2 (.inr hj)) hoj
        · intro j hj hjl
          rcases (hset j).1 hjl with rfl | hj'
          · exact him
          · exact hm1 j hj hj'
        · intro j oj hj hoj e he
          rw [hset]
          rcases (hset j).1 hj with rfl | hj'
          · rw [ho'] at hoj
            simp only [Option.some.injEq] at hoj
            subst hoj
            obtain ⟨e', he', hb', rfl⟩ := mem_depsOf.1 he
            exact .inr (hdeps e' he' hb')
          · exact .inr (h3 j oj hj' hoj e he)
  have hno : ∀ j, (Array.replicate ops.toArray.size false).getD j false = false := by
    intro j
    simp [Array.getD_eq_getD_getElem?, Array.getElem?_replicate]
    split <;> simp
  refine key ops.toArray.size _ a0 _ ⟨fun _ => 0, fun _ => 0, fun _ => false⟩ (by simp) (by simp) (fun j _ => hno j) (fun _ _ => rfl) ⟨⟨Chg.of_ex (Ex.drew w0), fun j h => (Bool.false_ne_true h).elim, fun i j h => (Bool.false_ne_true h).elim, fun j k h => (Bool.false_ne_true h).elim, fun j k h => (Bool.false_ne_true h).elim⟩, hA0.defers, hA0.size, fun j h => (Bool.false_ne_true h).elim, ?_⟩ (fun j _ h => by rw [hno j] at h; cases h) (fun j o h => by rw [hno j] at h; cases h)
  intro t v hv _
  exact hA0.slot t v hv
/-! ### What an operation yields, told to the printed proofs -/
def DetG (c : Value) : Gh → Value → World → Prop := fun _ v _ => v = c
def vgetG (Vs : List (Gh → Value → World → Prop)) (i : Nat) : Gh → Value → World → Prop := match Vs[i]? with | some V => V | none => fun _ _ _ => True
def KeptG (ops : List Oper) (w0 : World) (p0 : Gh → Nat → Prop) (Stp : Nat → Gh → Nat → Prop) (j : Nat) (V : Gh → Value → World → Prop) : Prop :=
  ∀ i G v w w', StG ops w0 p0 G w → G.dn i = false → (∀ k, behind ops 24 i k = true → G.dn k = true) → G.dn j = true → V G v w → Chg (Stp i G) w w' → V (G.upd i w.heap.size w'.heap.size) v w'
theorem KeptG.det {ops : List Oper} {w0 : World} {p0 : Gh → Nat → Prop} {Stp : Nat → Gh → Nat → Prop} {j : Nat} (c : Value) : KeptG ops w0 p0 Stp j (DetG c) := fun _ _ _ _ _ _ _ _ _ h _ => h
def AllKeptG (ops : List Oper) (w0 : World) (p0 : Gh → Nat → Prop) (Stp : Nat → Gh → Nat → Prop) : Nat → List (Gh → Value → World → Prop) → Prop
  | _, [] => True
  | j, V :: Vs => KeptG ops w0 p0 Stp j V ∧ AllKeptG ops w0 p0 Stp (j + 1) Vs
theorem AllKeptG.get {ops : List Oper} {w0 : World} {p0 : Gh → Nat → Prop} {Stp : Nat → Gh → Nat → Prop} : ∀ {Vs : List (Gh → Value → World → Prop)} {k : Nat}, AllKeptG ops w0 p0 Stp k Vs → ∀ j V, Vs[j]? = some V → KeptG ops w0 p0 Stp (k + j) V
  | [], _, _, j, V, h => by simp at h
  | U :: Us, k, h, j, V, hj => by
    cases j with
    | zero => simp at hj; subst hj; exact h.1
    | succ j => have := AllKeptG.get h.2 j V (by simpa using hj); rwa [show k + 1 + j = k + (j + 1) by omega] at this
theorem vgetG_kept {ops : List Oper} {w0 : World} {p0 : Gh → Nat → Prop} {Stp : Nat → Gh → Nat → Prop} {Vs : List (Gh → Value → World → Prop)} (h : AllKeptG ops w0 p0 Stp 0 Vs) (i j : Nat) (G : Gh) (v : Value) (w w' : World) (hS : StG ops w0 p0 G w) (hi : G.dn i = false) (hh : ∀ k, behind ops 24 i k = true → G.dn k = true) (hj : G.dn j = true)
    (hv : vgetG Vs j G v w) (e : Chg (Stp i G) w w') : vgetG Vs j (G.upd i w.heap.size w'.heap.size) v w' := by
  unfold vgetG at *
  cases hV : Vs[j]? with
  | none => simp
  | some V =>
    rw [hV] at hv
    have := AllKeptG.get h j V hV
    rw [Nat.zero_add] at this
    exact this i G v w w' hS hi hh hj hv e
theorem Yl.sameG {P : Program} {o : Oper} {L : List (Nat × Value)} {w : World} {p : Nat → Prop} {V : Gh → Value → World → Prop} {G : Gh} {i : Nat} (h : Yl P o L w fun v w' => (∀ lo hi, V (G.upd i lo hi) v w') ∧ w' = w) : Yl P o L w fun v w' => Chg p w w' ∧ V (G.upd i w.heap.size w'.heap.size) v w' :=
  fun ρ hρ => (h ρ hρ).mono fun _ _ ⟨h1, h2⟩ => ⟨h2 ▸ Chg.refl _ _, h1 _ _⟩
end Go.X
