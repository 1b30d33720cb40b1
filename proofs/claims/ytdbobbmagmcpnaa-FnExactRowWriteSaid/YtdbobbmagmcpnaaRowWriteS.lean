/- Row Write: what strings.Join returns: the library's contract, laid at this program by its tool. -/
import Derived.Shelf.Strings.OnBuilder
import Derived.Test.YtdbobbmagmcpnaaProg
import Derived.Test.YtdbobbmagmcpnaaRowWriteT
set_option linter.unusedVariables false
set_option linter.unusedSimpArgs false
namespace Go.Proofs.Ytdbobbmagmcpnaa
open Go.RowKit Go.X
open Go.Shelf
def lays156_ren : Go.Shelf.Ren := ⟨fun | 156 => 132 | 165 => 180 | 166 => 181 | 169 => 182 | 240 => 214 | 241 => 215 | 276 => 225 | 277 => 226 | n => n, fun | 31 => 22 | 9 => 9 | 3 => 3 | 4 => 4 | 0 => 0 | 20 => 20 | 72 => 207 | 76 => 211 | 70 => 205 | 37 => 181 | 75 => 210 | 127 => 234 | 164 => 239 | 5 => 5 | 80 => 149 | n => n, fun | n => n⟩
theorem lays156 : Go.Proofs.Lays.n156 Try.prog lays156_ren := {
  mixed := by kernel_rfl
  f156 := Try.func132.trans (congrArg some (by kernel_rfl))
  f165 := Try.func180.trans (congrArg some (by kernel_rfl))
  f166 := Try.func181.trans (congrArg some (by kernel_rfl))
  f169 := Try.func182.trans (congrArg some (by kernel_rfl))
  f240 := Try.func214.trans (congrArg some (by kernel_rfl))
  f241 := Try.func215.trans (congrArg some (by kernel_rfl))
  f276 := Try.func225.trans (congrArg some (by kernel_rfl))
  f277 := Try.func226.trans (congrArg some (by kernel_rfl))
  t0 := Try.underlying0
  a0 := Try.isAgg0
  z0 := Try.sizeOf0
  v0 := Try.zeroValue0
  t3 := Try.underlying3
  a3 := Try.isAgg3
  z3 := Try.sizeOf3
  v3 := Try.zeroValue3
  t4 := Try.underlying4
  a4 := Try.isAgg4
  z4 := Try.sizeOf4
  v4 := Try.zeroValue4
  t9 := Try.underlying9
  a9 := Try.isAgg9
  z9 := Try.sizeOf9
  v9 := Try.zeroValue9
  t20 := Try.underlying20
  a20 := Try.isAgg20
  z20 := Try.sizeOf20
  v20 := Try.zeroValue20
  t31 := Try.underlying22
  a31 := Try.isAgg22
  z31 := Try.sizeOf22
  v31 := Try.zeroValue22
  t37 := Try.underlying181
  a37 := Try.isAgg181
  z37 := Try.sizeOf181
  v37 := Try.zeroValue181
  t70 := Try.underlying205
  a70 := Try.isAgg205
  z70 := Try.sizeOf205
  v70 := Try.zeroValue205
  t72 := Try.underlying207
  a72 := Try.isAgg207
  z72 := Try.sizeOf207
  v72 := Try.zeroValue207
  t75 := Try.underlying210
  a75 := Try.isAgg210
  z75 := Try.sizeOf210
  v75 := Try.zeroValue210
  t76 := Try.underlying211
  a76 := Try.isAgg211
  z76 := Try.sizeOf211
  v76 := Try.zeroValue211
  t127 := Try.underlying234
  a127 := Try.isAgg234
  z127 := Try.sizeOf234
  v127 := Try.zeroValue234
  t164 := Try.underlying239
  a164 := Try.isAgg239
  z164 := Try.sizeOf239
  v164 := Try.zeroValue239 }
theorem Builder_Extra_156 : Builder.Extra Try.prog lays156_ren := {
  sizeBuilder := by kernel_rfl
  liesBuilder := by kernel_rfl
  t5 := Try.underlying5
  a5 := Try.isAgg5
  z5 := Try.sizeOf5
  v5 := Try.zeroValue5
  infoByte := by kernel_rfl
  cellsByte := by kernel_rfl
  sizeByte := by kernel_rfl
  neB5 := by decide }
open Go.RowKit in
/-- No element: the empty string; the world is as it was. (Whatever the slice's address and capacity: a nil slice too.) (LAID: no walk: one application.) -/
theorem strings_Join_none (a : Option Addr) (c : Nat) (sep : ByteArray) (w : World) :
    Calls Try.prog 132 #[.slice a 0 c, .string sep] w fun e w' => e = .returned (.string ⟨#[]⟩) ∧ w' = w := Any.strings_Join_none lays156 Builder_Extra_156 a c sep w
open Go.RowKit in
/-- strings.Join: "Join concatenates the elements of its first argument to create a single string. The separator string sep is placed between elements in the resulting string.": HOWEVER MANY ELEMENTS. Below the heap's end the world is as it was. (LAID: no walk: one application.) -/
theorem strings_Join (bk o c : Nat) (xs : List ByteArray) (sep : ByteArray) (w : World) (hcells : ∀ (j : Nat) x, xs[j]? = some x → w.cell? ⟨bk, o + j, none⟩ = some (.string x)) (hbk : bk < w.heap.size) (hN : xs.length ≤ 140737488355328) (hcap : xs.length ≤ c) (hlen : (Lib.join (xs.map (·.data.toList)) sep.data.toList).length ≤ 140737488355328) :
    Calls Try.prog 132 #[.slice (some ⟨bk, o, none⟩) xs.length c, .string sep] w fun e w' => e = .returned (.string ⟨(Lib.join (xs.map (·.data.toList)) sep.data.toList).toArray⟩) ∧ Below w.heap.size w w' := Any.strings_Join lays156 Builder_Extra_156 bk o c xs sep w hcells hbk hN hcap hlen

theorem c_g_strings_Join {A1 : Option Addr} {c1 : Nat} {w : World} (p_elems : List Str) (p_sep : Str) (h1 : RdS w (Iv 0 w.heap.size) (RF e_Str) 1 A1 p_elems.length c1 p_elems) (o2 : okL okS p_elems) (o3 : okS p_sep) (pre0 : (g_strings_Join p_elems p_sep).length ≤ 1073741824) : Cal Try.prog 132 #[.slice A1 p_elems.length c1, .string (bs (p_sep))] w fun v w' => v = .string (bs ((g_strings_Join p_elems p_sep))) ∧ okS (g_strings_Join p_elems p_sep) ∧ Ex w w' := by
  have hj : (p_elems.map bs).map (·.data.toList) = p_elems := by
    rw [List.map_map]
    exact List.map_id _
  have hr : Lib.join ((p_elems.map bs).map (·.data.toList)) (bs p_sep).data.toList = g_strings_Join p_elems p_sep := by rw [hj]; rfl
  cases p_elems with
  | nil =>
    refine Calls.mono (strings_Join_none A1 c1 (bs p_sep) w) ?_
    rintro e w' ⟨he, rfl⟩
    exact ⟨_, he, rfl, pre0, Ex.refl _⟩
  | cons x xs =>
    obtain ⟨b, off, cs, hA, -, hb, -, -, -⟩ := RdS.atD h1 d_Str (i := 0) (Nat.succ_pos _)
    subst hA
    have hl : (x :: xs).length = ((x :: xs).map bs).length := (List.length_map ..).symm
    have hc := strings_Join b off c1 ((x :: xs).map bs) (bs p_sep) w (fun j y hy => by
      rw [List.getElem?_map] at hy
      cases hx : (x :: xs)[j]? with
      | none => rw [hx] at hy; cases hy
      | some z =>
        rw [hx] at hy
        obtain ⟨hjl, hz⟩ := List.getElem?_eq_some_iff.1 hx
        obtain ⟨b', off', cs', hA', -, -, -, hR, hC⟩ := RdS.at h1 hjl
        cases hA'
        rw [hz] at hR
        have h3 := hC 0 (.string (bs z)) (by rw [show cs' = [.string (bs z)] from hR]; rfl)
        rw [← Option.some.inj hy]
        simpa using h3) hb (by have := o2.1; omega) (by rw [← hl]; exact h1.2.1) (by rw [hr]; omega)
    rw [← hl, hr] at hc
    refine Calls.mono hc ?_
    rintro e w' ⟨he, hw⟩
    exact ⟨_, he, rfl, pre0, hw⟩
end Go.Proofs.Ytdbobbmagmcpnaa
