/- A law's arguments, opened; its end. -/
import Derived.Test.YtdhfokkkpcelpaaGreatDoorE7
import Derived.SizedLaws
import Derived.Below
import Derived.ChangeSame
import Derived.WideKeyArgs
import Derived.ProofKit
set_option linter.unusedVariables false
set_option linter.unusedSimpArgs false
namespace Go.X
open Go.RowKit Go.WideShapes Go.ChangeShapes
/-! ### What an argument is sure to be -/
def wfI (n : Int) : Prop := -9223372036854775808 ≤ n ∧ n ≤ 9223372036854775807
def wfS (s : Str) : Prop := s.length ≤ 9223372036854775807
def wfL {α : Type} (wf : α → Prop) (xs : List α) : Prop := xs.length ≤ 281474976710656 ∧ ∀ x ∈ xs, wf x
def wfT {α : Type} : α → Prop := fun _ => True
def RL {α : Type} (R : Rel α) (sz : Nat) : Rel (List α) := fun w S cs xs => ∃ A c, cs = [.slice A xs.length c] ∧ RdS w S R sz A xs.length c xs
def Opens {α : Type} (P : Program) (t : TypeId) (R : Rel α) (wf : α → Prop) : Prop :=
  ∀ {H : Type} (enc : TypeId × Value → H) (w : World) (base : Nat) (spare : Nat → Bool) (held : Bool) (fuel : Nat) (cs : List Value) (x : DataW H × List MemPlace),
    DataW.trod enc P w base spare held fuel t cs = some x → (∀ n ∈ x.1.weights P t, n ≤ reachBytes) → ∃ y, R w Any cs y ∧ wf y
section
variable {P : Program} {t : TypeId}
theorem opens_int (ht : P.underlying t = some (.int .i64)) : Opens P t (RF e_Int) wfI := by
  intro H enc w base spare held fuel cs x h _
  obtain ⟨n, rfl, rfl, hw⟩ := DataW.trod_int ht h
  refine ⟨n, rfl, ?_⟩
  have h1 : IntKind.min .i64 = -9223372036854775808 := by decide
  have h2 : IntKind.max .i64 = 9223372036854775807 := by decide
  simp [Lit.wf] at hw
  unfold wfI
  omega
theorem opens_bool (ht : P.underlying t = some .bool) : Opens P t (RF e_Bool) wfT := by
  intro H enc w base spare held fuel cs x h _
  obtain ⟨b, rfl, rfl⟩ := DataW.trod_bool ht h
  exact ⟨b, rfl, trivial⟩
theorem opens_string (ht : P.underlying t = some .string) : Opens P t (RF e_Str) wfS := by
  intro H enc w base spare held fuel cs x h _
  obtain ⟨s, rfl, rfl, hs⟩ := DataW.trod_string ht h
  refine ⟨s.data.toList, ?_, ?_⟩
  · show [Value.string s] = [Value.string (bs s.data.toList)]
    unfold bs; rfl
  · have : s.data.toList.length = s.size := rfl
    unfold wfS; rw [this]; exact Nat.le_trans hs (by decide)
theorem weightsAll_mem {H : Type} {e : TypeId} {elems : List (DataW H × List MemPlace)} {i : Nat} {z : DataW H × List MemPlace} (hz : elems[i]? = some z) {m : Nat} (hm : m ∈ z.1.weights P e) : m ∈ DataW.weightsAll P e (elems.map (·.1)) := by
  induction elems generalizing i with
  | nil => simp at hz
  | cons u us ih =>
    simp only [List.map_cons, DataW.weightsAll, List.mem_append]
    cases i with
    | zero => simp only [List.getElem?_cons_zero, Option.some.injEq] at hz; subst hz; exact Or.inl hm
    | succ i => exact Or.inr (ih (by simpa using hz))
theorem opens_slice {α : Type} {R : Rel α} {wf : α → Prop} {e : TypeId} {sz by_ : Nat} (ht : P.underlying t = some (.slice e)) (hsz : P.cellsOf e = sz) (hby : P.bytesOf e = by_) (h0 : Nat.ble 1 by_ = true) (hs0 : 0 < sz) (O : Opens P e R wf) : Opens P t (RL R sz) (wfL wf) := by
  intro H enc w base spare held fuel cs x h hw
  rcases DataW.trod_slice ht h with ⟨rfl, rfl⟩ | ⟨a, len, cap, elems, rest, n, -, rfl, rfl, hb, hlc, hc, hel, hat, -, -⟩
  · exact ⟨[], ⟨none, 0, rfl, RdS.nil _ _ _ _ _ _ (by decide)⟩, Nat.zero_le _, fun _ h => by cases h⟩
  · have hb1 : 1 ≤ by_ := Nat.le_of_ble_eq_true h0
    have hw1 : ∀ n ∈ ((elems.map (·.1)).length + (rest.map (·.1)).length) * P.bytesOf e :: (DataW.weightsAll P e (elems.map (·.1)) ++ DataW.weightsAll P e (rest.map (·.1))), n ≤ reachBytes := by
      intro m hm; refine hw m ?_; simp only [DataW.weights, ht]; exact hm
    have hlen : len ≤ 281474976710656 := by
      have h1 := hw1 _ (List.mem_cons_self ..)
      rw [hby, List.length_map, List.length_map] at h1
      have h2 : elems.length * 1 ≤ (elems.length + rest.length) * by_ := Nat.mul_le_mul (by omega) hb1
      have h3 : reachBytes ≤ 281474976710656 := by decide
      omega
    have hwe : ∀ (i : Nat) (z : DataW H × List MemPlace), elems[i]? = some z → ∀ n ∈ z.1.weights P e, n ≤ reachBytes := by
      intro i z hz m hm
      refine hw1 m (List.mem_cons_of_mem _ (List.mem_append_left _ ?_))
      exact weightsAll_mem hz hm
    have hone : ∀ i, i < len → ∃ c y, c.length = sz ∧ (∀ j, j < sz → w.cell? ((a.add (i * sz)).add j) = c[j]?) ∧ R w Any c y ∧ wf y := by
      intro i hi
      have hi' : i < elems.length := by omega
      have hz := hat i hi
      rw [List.getElem?_eq_getElem hi', Option.bind_eq_some_iff] at hz
      obtain ⟨c, hc1, hc2⟩ := hz
      obtain ⟨y, hy, hwf⟩ := O enc w base spare held n c _ hc2 (hwe i _ (List.getElem?_eq_getElem hi'))
      obtain ⟨_, hl, hcell⟩ := World.cells?_some hc1
      rw [hsz] at hl hcell
      exact ⟨c, y, hl, hcell, hy, hwf⟩
    rcases Nat.eq_zero_or_pos len with hz | hpos
    · subst hz
      exact ⟨[], ⟨some a, cap, rfl, rfl, Nat.zero_le _, ⟨hc, Nat.zero_le _⟩, [], EncL.nil, .inl rfl⟩, Nat.zero_le _, fun _ h => by cases h⟩
    have hspot : a.spot = none ∧ a.block < w.heap.size := by
      obtain ⟨c, y, hl, hcell, _, _⟩ := hone 0 hpos
      have h2 := hcell 0 hs0
      rw [Nat.zero_mul, List.getElem?_eq_getElem (by omega)] at h2
      have h3 : (a.add 0).add 0 = a := rfl
      rw [h3] at h2
      unfold World.cell? at h2
      split at h2
      · rename_i hh
        constructor
        · split at h2
          · cases h2
          · rename_i hs; cases hsp : a.spot with
            | none => rfl
            | some _ => rw [hsp] at hs; exact absurd rfl hs
        · rcases Nat.lt_or_ge a.block w.heap.size with h | h
          · exact h
          · rw [Array.getElem?_eq_none h] at hh; cases hh
      · cases h2
    obtain ⟨g, off, sp⟩ := a
    obtain ⟨hsp, hlt⟩ := hspot
    simp only at hsp hlt
    subst hsp
    have hadd : ∀ n, (⟨g, off, none⟩ : Addr).add n = ⟨g, off + n, none⟩ := fun n => by
      unfold Addr.add; split
      · subst n; rfl
      · rfl
    have hadd2 : ∀ k n, (⟨g, off + k, none⟩ : Addr).add n = ⟨g, off + k + n, none⟩ := fun k n => by
      unfold Addr.add; split
      · subst n; rfl
      · rfl
    have build : ∀ k, k ≤ len → ∃ cells ys, EncL (R w Any) sz cells ys ∧ ys.length = k ∧ (∀ y ∈ ys, wf y) ∧ Cells w g (off + (len - k) * sz) cells := by
      intro k
      induction k with
      | zero => intro _; exact ⟨[], [], EncL.nil, rfl, (fun _ h => by cases h), (fun j u hu => by cases hu)⟩
      | succ k ih =>
        intro hk
        obtain ⟨cells, ys, h1, h2, h3, h4⟩ := ih (by omega)
        obtain ⟨c, y, hl, hcell, hy, hwf⟩ := hone (len - (k + 1)) (by omega)
        refine ⟨c ++ cells, y :: ys, EncL.cons hl hy h1, by rw [List.length_cons, h2], fun z hz => ?_, fun j u hu => ?_⟩
        · rcases List.mem_cons.1 hz with rfl | hz
          · exact hwf
          · exact h3 z hz
        · rcases Nat.lt_or_ge j c.length with hj | hj
          · rw [List.getElem?_append_left hj] at hu
            have := hcell j (by omega)
            rw [hadd, hadd2, hu] at this
            exact this
          · rw [List.getElem?_append_right hj] at hu
            have := h4 _ _ hu
            have e1 : off + (len - k) * sz + (j - c.length) = off + (len - (k + 1)) * sz + j := by
              have : len - k = (len - (k + 1)) + 1 := by omega
              rw [this, Nat.add_mul]; omega
            rw [e1] at this
            exact this
    obtain ⟨cells, ys, h1, h2, h3, h4⟩ := build len (Nat.le_refl _)
    rw [Nat.sub_self, Nat.zero_mul, Nat.add_zero] at h4
    refine ⟨ys, ⟨some ⟨g, off, none⟩, cap, by rw [h2], rfl, by omega, ⟨hc, by omega⟩, cells, h1, .inr ⟨g, off, rfl, trivial, hlt, h4⟩⟩, by omega, h3⟩
theorem opens_field {α : Type} {R : Rel α} {wf : α → Prop} {ft : TypeId} {fs : Array Field} {H : Type} {enc : TypeId × Value → H} {w : World} {base : Nat} {spare : Nat → Bool} {held : Bool} {fuel : Nat} {cs : List Value} {xs : List (DataW H × List MemPlace)}
    (O : Opens P ft R wf) (ht : P.underlying t = some (.struct fs)) (hw : ∀ n ∈ (DataW.agg (xs.map (·.1))).weights P t, n ≤ reachBytes) (hl : xs.length = fs.size)
    (h : ∀ (i : Nat) (f : Field), fs[i]? = some f → DataW.trod enc P w base spare held fuel f.type ((cs.drop f.offset).take (P.cellsOf f.type)) = xs[i]?)
    (i : Nat) {F : Field} {o n : Nat} (hF : fs[i]? = some F) (hft : F.type = ft) (ho : F.offset = o) (hn : P.cellsOf ft = n) : ∃ y, R w Any ((cs.drop o).take n) y ∧ wf y := by
  subst hft; subst ho; subst hn
  have hi : i < fs.size := by
    rcases Nat.lt_or_ge i fs.size with h | h
    · exact h
    · rw [Array.getElem?_eq_none h] at hF; cases hF
  have hx := h i F hF
  have hi' : i < xs.length := by omega
  rw [List.getElem?_eq_getElem hi'] at hx
  refine O enc w base spare held fuel _ _ hx fun m hm => hw m ?_
  simp only [DataW.weights, ht]
  refine DataW.weights_mem_each (j := i) (t := F.type) (d := xs[i].1) ?_ ?_ m hm
  · rw [List.getElem?_map, Array.getElem?_toList, hF]; rfl
  · rw [List.getElem?_map, List.getElem?_eq_getElem hi']; rfl
end
theorem asm {cs c r : List Value} {o n : Nat} (h : (cs.drop o).take n = c) (hr : cs.drop (o + n) = r) : cs.drop o = c ++ r := by
  rw [← h, ← hr, ← List.drop_drop, List.take_append_drop]
theorem asm_end {cs : List Value} {n : Nat} (h : cs.length = n) : cs.drop n = [] := List.drop_eq_nil_of_le (by omega)
/-! ### The call's arguments -/
section
variable {P : Program} {H : Type} {enc : TypeId × Value → H} {w : World} {base : Nat} {spare : Nat → Bool} {held : Bool} {t : TypeId} {v : Value} {d : DataW H} {ps : List MemPlace}
theorem open_arg {α : Type} {R : Rel α} {wf : α → Prop} (O : Opens P t R wf) (h : DataW.Trod enc P w base spare held t v d ps) (hw : ∀ n ∈ d.weights P t, n ≤ reachBytes) : ∃ y, R w Any v.cells.toList y ∧ wf y := by
  obtain ⟨n, hn⟩ := h
  exact O enc w base spare held n _ _ hn hw
theorem one_of_cells {v u : Value} (hv : v.cells.toList = [v]) (h : v.cells.toList = [u]) : v = u := by
  rw [hv] at h; exact (List.cons.inj h).1
theorem agg_of_cells {cs : Array Value} {l : List Value} (h : (Value.agg cs).cells.toList = l) : Value.agg cs = .agg l.toArray := by
  have : cs.toList = l := h
  rw [← this]
end
theorem law_post {P : Program} {H : Type} {enc : TypeId × Value → H} {f : Func} {s : ChangeSpec} {apart fresh handsOn again : Bool} {W W' : World} {args : Array Value} {ds gs : List (DataW H)} {before : List MemPlace} {tb : TypeId}
    (hl : laidOutB P = true) (hread : f.params.toList.all (fun t => P.readableRec t && decide (t < P.types.size)) = true) (hv : s.vars = []) (hres : f.resultTypes = #[tb]) (hb : P.underlying tb = some .bool)
    (hfn : gs = [] → s.fn H (ds ++ gs) = { results := [.lit (.bool true)], args := ds })
    (hW : DataW.Whole enc P f.params.toList s.vars apart W args.toList ds gs before) (he : Ex W W') : s.post enc P f apart fresh handsOn again W args (.bool true) W' := by
  have hlt : ∀ p ∈ before, p.block < W.heap.size := fun p hp => hW.lt p hp
  have hold : ∀ p ∈ before, (fun b => decide (b < W.heap.size)) p.block = true := fun p hp => by simpa using hlt p hp
  have hW0 := hW
  obtain ⟨pa, pv, hA, hV, hps, hz, hn⟩ := hW0
  rw [hv] at hV
  obtain ⟨rfl, rfl⟩ := trodVars_none hV
  rw [List.append_nil] at hps
  obtain rfl : before = pa := hps
  have hfn := hfn rfl
  have stay : ∀ (sp : Nat → Bool) {ts : List TypeId} {vs : List Value} {es : List (DataW H)} {ps : List MemPlace}, ts.all (fun t => P.readableRec t && decide (t < P.types.size)) = true → DataW.TrodAll enc P W 0 (fun _ => true) true ts vs es ps → (∀ p ∈ ps, p.block < W.heap.size) → (∀ p ∈ ps, sp p.block = true) → DataW.TrodAll enc P W' 0 sp true ts vs es ps := by
    intro sp ts
    induction ts with
    | nil =>
      intro vs es ps _ h _ _
      obtain ⟨rfl, rfl, rfl⟩ := trodAll_nil h
      rfl
    | cons t ts ih =>
      intro vs es ps hr h hb hs
      obtain ⟨v, vs', d, es', p, q, rfl, rfl, rfl, h1, h2⟩ := trodAll_cons h
      simp only [List.all_cons, Bool.and_eq_true, decide_eq_true_eq] at hr
      refine ⟨p, q, Go.WideElems.Trod_stays hl hr.1.1 hr.1.2 h1 (fun x hx => Below.same he (hb x (List.mem_append_left _ hx))) (fun x hx => hs x (List.mem_append_left _ hx)), ih hr.2 h2 (fun x hx => hb x (List.mem_append_right _ hx)) (fun x hx => hs x (List.mem_append_right _ hx)), rfl⟩
  have hargs : ∀ sp : Nat → Bool, (∀ p ∈ before, sp p.block = true) → DataW.TrodAll enc P W' 0 sp true f.params.toList args.toList ds before := fun sp hs => stay sp hread hA hlt hs
  have hres' : ∀ (b : Nat) (sp : Nat → Bool) (hd : Bool), DataW.TrodAll enc P W' b sp hd f.resultTypes.toList ((Value.bool true).resultList f.resultTypes.size) [DataW.lit (.bool true)] [] := by
    intro b sp hd
    rw [hres]
    exact trodAll_mk1 (shut_bool hb true)
  refine ⟨ds, [], before, [], before, [], hW, by rw [hfn]; exact hres' _ _ _, by rw [hfn]; exact hargs _ hold, by rw [hfn, hv]; rfl, World.keptBut_mono (fun p hp => ⟨hp, ?_⟩) (Below.frame he (· ∈ before)), fun _ => ?_⟩
  · exact Or.inr (by simpa using hp)
  · have hA' : DataW.TrodAll enc P W' 0 (fun _ => true) true f.params.toList args.toList (s.fn H (ds ++ [])).args before := by rw [hfn]; exact hargs _ (fun _ _ => rfl)
    have hR' : DataW.TrodAll enc P W' 0 (fun _ => true) true f.resultTypes.toList ((Value.bool true).resultList f.resultTypes.size) (s.fn H (ds ++ [])).results [] := by rw [hfn]; exact hres' _ _ _
    have hV' : DataW.TrodVars enc P W' (fun _ => true) s.vars (s.fn H (ds ++ [])).vars [] := by rw [hfn, hv]; rfl
    refine ⟨ok_one hres rfl (okWide_bool_mk hb true), _, _, ([] ++ before) ++ [], ⟨[] ++ before, [], trodAll_append hA' hR', hV', rfl, ?_, ?_⟩, ?_⟩
    · intro b off hp
      have hin : MemPlace.cell b off ∈ before := by simpa using hp
      rw [Below.frozen he (hlt _ hin)]
      exact hz b off hin
    · intro ha
      simpa using hn ha
    · intro p hp _
      simpa using hp
end Go.X
