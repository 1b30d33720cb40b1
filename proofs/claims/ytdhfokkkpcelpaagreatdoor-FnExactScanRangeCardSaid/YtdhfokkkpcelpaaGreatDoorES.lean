/- strings.Split at a separator of one byte: what it returns. -/
import Derived.Shelf.Strings.Split
import Derived.Lib.SplitLaws
import Derived.Test.YtdhfokkkpcelpaaGreatDoorE35
set_option linter.unusedVariables false
set_option linter.unusedSimpArgs false
namespace Go.X
open Go.RowKit
section
open Go.Proofs Go.Shelf
variable {P : Program} {ρ : Ren}
set_option maxHeartbeats 1000000 in
theorem split_one (L : Lays.n146 P ρ) (hi9 : (P.info? (ρ.t 9)).map (fun i => (i.zero, i.size, i.bytes)) = some (some (.string ByteArray.empty), 1, 16)) (s : ByteArray) (c : UInt8) (w : World) (hs : s.size < 4294967281) :
    Calls P (ρ.f 146) #[.string s, .string ⟨#[c]⟩] w fun e w' =>
      e = .returned (.slice (some ⟨w.heap.size, 0, none⟩) (Lib.countB s ⟨#[c]⟩ + 1) (Lib.countB s ⟨#[c]⟩ + 1)) ∧ w' = w.alloc (.cells ((Lib.splitB ⟨#[c]⟩ 0 (Lib.countB s ⟨#[c]⟩) s).map Value.string).toArray (ρ.t 9)) := by
  have h1 : 1 ≤ (⟨#[c]⟩ : ByteArray).size := Nat.le_refl 1
  have hle := Lib.countB_le ⟨#[c]⟩ h1 s.size s (Nat.le_refl _)
  have hlen := Lib.splitB_all ⟨#[c]⟩ h1 0 _ s rfl
  have k := Any.strings_genSplit_core { L with } hi9 s ⟨#[c]⟩ 0 (-1) (Lib.countB s ⟨#[c]⟩ + 1) w hs h1 (Nat.zero_le _)
    (fun x d _ => (Any.strings_Index_one { L with } x c _).mono fun e w' ⟨he, hw⟩ => ⟨by
      rw [he]
      show _ = Ending.returned (Value.int .i64 (Lib.index x.data.toList [c]))
      rw [Lib.index_one], hw⟩)
    ((Any.strings_Count_one { L with } s c w).mono fun e w' ⟨he, hw⟩ => ⟨by
      rw [he]
      show _ = Ending.returned (Value.int .i64 ((Lib.count s.data.toList [c] : Nat) : Int))
      rw [Lib.count_one]
      rfl, hw⟩)
    (by decide) (by decide) (by rw [if_pos (by decide)]; omega)
  rw [Nat.add_sub_cancel, hlen] at k
  have e2 : Lib.cellsOf (Lib.splitB ⟨#[c]⟩ 0 (Lib.countB s ⟨#[c]⟩) s) (Lib.countB s ⟨#[c]⟩ + 1) = ((Lib.splitB ⟨#[c]⟩ 0 (Lib.countB s ⟨#[c]⟩) s).map Value.string).toArray := by rw [← hlen]; exact Lib.cellsOf_full _
  rw [e2] at k
  have t3 := L.t3; have t9 := L.t9; have t31 := L.t31
  have a3 := L.a3; have a9 := L.a9; have a31 := L.a31
  have z3 := L.z3; have v3 := L.v3; have z9 := L.z9; have v9 := L.v9; have z31 := L.z31; have v31 := L.v31
  have e221 : ∀ args w, (callFunc (ρ.f 221) args).run P w = .ok (.enter (ρ.f 221) args) w := enters_of L.f221 (by kernel_rfl) rfl
  go_enter L.f146, Body.n146_ntmps ρ
  go_wp2_with (go_at_fn (ρ.f 221); refine k.mono ?_; rintro e w' ⟨rfl, hw⟩; rw [hw])
  go_ret
  exact ⟨rfl, rfl⟩
theorem splitK_sp (c : UInt8) : ∀ (n : Nat) (l : Str), l.length ≤ n → Lib.splitK [c] 0 (l.count c) l = sp c l := by
  intro n
  induction n with
  | zero => intro l hl; obtain rfl : l = [] := List.eq_nil_of_length_eq_zero (by omega); rfl
  | succ n ih =>
    intro l hl
    rcases indexByte_split c l with ⟨h, _⟩ | ⟨a, r, e, h, hi⟩
    · rw [sp_none h, List.count_eq_zero.2 h]; rfl
    · have hi' : Lib.index l [c] = (a.length : Int) := by rw [Lib.index_one]; exact hi
      have hc : l.count c = r.count c + 1 := by rw [e, List.count_append, List.count_cons_self, List.count_eq_zero.2 h]; omega
      rw [hc]
      unfold Lib.splitK
      rw [hi', if_neg (by simp only [beq_iff_eq]; omega)]
      have e1 : l.take ((a.length : Int).toNat + 0) = a := by rw [e, Int.toNat_natCast, Nat.add_zero, List.take_left]
      have e2 : l.drop ((a.length : Int).toNat + [c].length) = r := by
        rw [e, Int.toNat_natCast, List.length_singleton, ← List.drop_drop, List.drop_left]; rfl
      rw [e1, e2, ih r (by rw [e] at hl; simp only [List.length_append, List.length_cons] at hl; omega), e, sp_some h]
theorem splitB_sp (c : UInt8) (s : Str) : (Lib.splitB ⟨#[c]⟩ 0 (Lib.countB (bs s) ⟨#[c]⟩) (bs s)).map (·.data.toList) = sp c s := by
  rw [Lib.splitB_data]
  have : Lib.countB (bs s) ⟨#[c]⟩ = s.count c := Lib.count_one c s
  rw [this]
  exact splitK_sp c s.length s (Nat.le_refl _)
theorem split_cal (L : Lays.n146 P ρ) (hi9 : (P.info? (ρ.t 9)).map (fun i => (i.zero, i.size, i.bytes)) = some (some (.string ByteArray.empty), 1, 16)) (s : Str) (c : UInt8) (w : World) (hs : okS s) :
    Cal P (ρ.f 146) #[.string (bs s), .string (bs [c])] w fun v w' => ∃ A k lo hi, v = .slice A (sp c s).length k ∧ OwnL w' lo hi (ρ.t 9) 1 (RF e_Str) A (sp c s).length k (sp c s) ∧ okL okS (sp c s) ∧ (w.heap.size ≤ lo ∧ lo ≤ hi ∧ hi ≤ w'.heap.size) ∧ Ex w w' := by
  have hs' : s.length ≤ 1073741824 := hs
  have hsp := splitB_sp c s
  have hlen := Lib.splitB_all ⟨#[c]⟩ (Nat.le_refl 1) 0 _ (bs s) rfl
  refine Calls.mono (split_one L hi9 (bs s) c w (by rw [bs_size]; omega)) ?_
  rintro e w' ⟨he, rfl⟩
  generalize hB : Lib.splitB ⟨#[c]⟩ 0 (Lib.countB (bs s) ⟨#[c]⟩) (bs s) = B at hsp hlen ⊢
  have hl : Lib.countB (bs s) ⟨#[c]⟩ + 1 = (sp c s).length := by rw [← hsp, List.length_map, hlen]
  rw [hl] at he
  have hcs : B.map Value.string = (sp c s).map fun x => Value.string (bs x) := by
    rw [← hsp, List.map_map]; rfl
  rw [hcs]
  obtain ⟨h1, h2, h3⟩ := alloc_facts w ((sp c s).map fun x => Value.string (bs x)) (ρ.t 9)
  have hln := sp_length c s
  have hE : ∀ l : List Str, EncL (RF e_Str w fun _ => False) 1 (l.map fun x => Value.string (bs x)) l := by
    intro l
    induction l with
    | nil => exact .nil
    | cons x l ih => exact .cons (c := [Value.string (bs x)]) rfl rfl ih
  refine ⟨_, he, _, _, w.heap.size, w.heap.size + 1, rfl, ?_, ⟨by omega, fun x hx => Nat.le_trans (sp_mem hx) hs'⟩, ⟨Nat.le_refl _, Nat.le_succ _, by rw [h1]; exact Nat.le_refl _⟩, h3⟩
  exact OwnL.of_box (S := fun _ => False) h2 (Nat.le_refl _) (Nat.lt_succ_self _) (hE _) (by omega) (fun h => h) (fun _ h => False.elim h)
end
end Go.X
