/- Scan Range: what strings.Join returns: the library's contract, laid at this program by its tool. -/
import Derived.Shelf.Strings.OnBuilder
import Derived.Test.YtdhfokkkpcelpaaGreatDoorProg
import Derived.Test.YtdhfokkkpcelpaaGreatDoorScanRangeT
set_option linter.unusedVariables false
set_option linter.unusedSimpArgs false
namespace Go.Proofs.YtdhfokkkpcelpaaGreatDoor
open Go.RowKit Go.X
open Go.Shelf
def lays156_ren : Go.Shelf.Ren := ⟨fun | 156 => 96 | 165 => 105 | 166 => 106 | 169 => 107 | 240 => 113 | 241 => 114 | 276 => 119 | 277 => 120 | n => n, fun | 31 => 22 | 9 => 9 | 3 => 3 | 4 => 4 | 0 => 0 | 20 => 20 | 72 => 120 | 76 => 124 | 70 => 118 | 37 => 94 | 75 => 123 | 127 => 130 | 164 => 132 | 5 => 5 | 80 => 126 | n => n, fun | n => n⟩
theorem lays156 : Go.Proofs.Lays.n156 Tryz.prog lays156_ren := {
  mixed := by kernel_rfl
  f156 := Tryz.func96.trans (congrArg some (by kernel_rfl))
  f165 := Tryz.func105.trans (congrArg some (by kernel_rfl))
  f166 := Tryz.func106.trans (congrArg some (by kernel_rfl))
  f169 := Tryz.func107.trans (congrArg some (by kernel_rfl))
  f240 := Tryz.func113.trans (congrArg some (by kernel_rfl))
  f241 := Tryz.func114.trans (congrArg some (by kernel_rfl))
  f276 := Tryz.func119.trans (congrArg some (by kernel_rfl))
  f277 := Tryz.func120.trans (congrArg some (by kernel_rfl))
  t0 := Tryz.underlying0
  a0 := Tryz.isAgg0
  z0 := Tryz.sizeOf0
  v0 := Tryz.zeroValue0
  t3 := Tryz.underlying3
  a3 := Tryz.isAgg3
  z3 := Tryz.sizeOf3
  v3 := Tryz.zeroValue3
  t4 := Tryz.underlying4
  a4 := Tryz.isAgg4
  z4 := Tryz.sizeOf4
  v4 := Tryz.zeroValue4
  t9 := Tryz.underlying9
  a9 := Tryz.isAgg9
  z9 := Tryz.sizeOf9
  v9 := Tryz.zeroValue9
  t20 := Tryz.underlying20
  a20 := Tryz.isAgg20
  z20 := Tryz.sizeOf20
  v20 := Tryz.zeroValue20
  t31 := Tryz.underlying22
  a31 := Tryz.isAgg22
  z31 := Tryz.sizeOf22
  v31 := Tryz.zeroValue22
  t37 := Tryz.underlying94
  a37 := Tryz.isAgg94
  z37 := Tryz.sizeOf94
  v37 := Tryz.zeroValue94
  t70 := Tryz.underlying118
  a70 := Tryz.isAgg118
  z70 := Tryz.sizeOf118
  v70 := Tryz.zeroValue118
  t72 := Tryz.underlying120
  a72 := Tryz.isAgg120
  z72 := Tryz.sizeOf120
  v72 := Tryz.zeroValue120
  t75 := Tryz.underlying123
  a75 := Tryz.isAgg123
  z75 := Tryz.sizeOf123
  v75 := Tryz.zeroValue123
  t76 := Tryz.underlying124
  a76 := Tryz.isAgg124
  z76 := Tryz.sizeOf124
  v76 := Tryz.zeroValue124
  t127 := Tryz.underlying130
  a127 := Tryz.isAgg130
  z127 := Tryz.sizeOf130
  v127 := Tryz.zeroValue130
  t164 := Tryz.underlying132
  a164 := Tryz.isAgg132
  z164 := Tryz.sizeOf132
  v164 := Tryz.zeroValue132 }
theorem Builder_Extra_156 : Builder.Extra Tryz.prog lays156_ren := {
  sizeBuilder := by kernel_rfl
  liesBuilder := by kernel_rfl
  t5 := Tryz.underlying5
  a5 := Tryz.isAgg5
  z5 := Tryz.sizeOf5
  v5 := Tryz.zeroValue5
  infoByte := by kernel_rfl
  cellsByte := by kernel_rfl
  sizeByte := by kernel_rfl
  neB5 := by decide }
open Go.RowKit in
/-- No element: the empty string; the world is as it was. (Whatever the slice's address and capacity: a nil slice too.) (LAID: no walk: one application.) -/
theorem strings_Join_none (a : Option Addr) (c : Nat) (sep : ByteArray) (w : World) :
    Calls Tryz.prog 96 #[.slice a 0 c, .string sep] w fun e w' => e = .returned (.string ⟨#[]⟩) ∧ w' = w := Any.strings_Join_none lays156 Builder_Extra_156 a c sep w
open Go.RowKit in
/-- strings.Join: "Join concatenates the elements of its first argument to create a single string. The separator string sep is placed between elements in the resulting string.": HOWEVER MANY ELEMENTS. Below the heap's end the world is as it was. (LAID: no walk: one application.) -/
theorem strings_Join (bk o c : Nat) (xs : List ByteArray) (sep : ByteArray) (w : World) (hcells : ∀ (j : Nat) x, xs[j]? = some x → w.cell? ⟨bk, o + j, none⟩ = some (.string x)) (hbk : bk < w.heap.size) (hN : xs.length ≤ 140737488355328) (hcap : xs.length ≤ c) (hlen : (Lib.join (xs.map (·.data.toList)) sep.data.toList).length ≤ 140737488355328) :
    Calls Tryz.prog 96 #[.slice (some ⟨bk, o, none⟩) xs.length c, .string sep] w fun e w' => e = .returned (.string ⟨(Lib.join (xs.map (·.data.toList)) sep.data.toList).toArray⟩) ∧ Below w.heap.size w w' := Any.strings_Join lays156 Builder_Extra_156 bk o c xs sep w hcells hbk hN hcap hlen

theorem c_g_strings_Join {A1 : Option Addr} {c1 : Nat} {w : World} (p_elems : List Str) (p_sep : Str) (h1 : RdS w (Iv 0 w.heap.size) (RF e_Str) 1 A1 p_elems.length c1 p_elems) (o2 : okL okS p_elems) (o3 : okS p_sep) (pre0 : (g_strings_Join p_elems p_sep).length ≤ 1073741824) : Cal Tryz.prog 96 #[.slice A1 p_elems.length c1, .string (bs (p_sep))] w fun v w' => v = .string (bs ((g_strings_Join p_elems p_sep))) ∧ okS (g_strings_Join p_elems p_sep) ∧ Ex w w' := by
  have hj : (p_elems.map bs).map (·.data.toList) = p_elems := by
    rw [List.map_map]
    exact List.map_id _
  have hr : Lib.join ((p_elems.map bs).map (·.data.toList)) (bs p_sep).data.toList = g_strings_Join p_elems p_sep := by rw [hj]; rfl
  cases p_elems with
  | nil =>
    refine Calls.mono (strings_Join_none A1 c1 (bs p_sep) w) ?_
    rintro e w' ⟨he, rfl⟩
    exact ⟨_, he, rfl, pre0, Ex.refl _⟩
  | cons x xs =>
    obtain ⟨b, off, cs, hA, -, hb, -, -, -⟩ := RdS.atD h1 d_Str (i := 0) (Nat.succ_pos _)
    subst hA
    have hl : (x :: xs).length = ((x :: xs).map bs).length := (List.length_map ..).symm
    have hc := strings_Join b off c1 ((x :: xs).map bs) (bs p_sep) w (fun j y hy => by
      rw [List.getElem?_map] at hy
      cases hx : (x :: xs)[j]? with
      | none => rw [hx] at hy; cases hy
      | some z =>
        rw [hx] at hy
        obtain ⟨hjl, hz⟩ := List.getElem?_eq_some_iff.1 hx
        obtain ⟨b', off', cs', hA', -, -, -, hR, hC⟩ := RdS.at h1 hjl
        cases hA'
        rw [hz] at hR
        have h3 := hC 0 (.string (bs z)) (by rw [show cs' = [.string (bs z)] from hR]; rfl)
        rw [← Option.some.inj hy]
        simpa using h3) hb (by have := o2.1; omega) (by rw [← hl]; exact h1.2.1) (by rw [hr]; omega)
    rw [← hl, hr] at hc
    refine Calls.mono hc ?_
    rintro e w' ⟨he, hw⟩
    exact ⟨_, he, rfl, pre0, hw⟩
end Go.Proofs.YtdhfokkkpcelpaaGreatDoor
