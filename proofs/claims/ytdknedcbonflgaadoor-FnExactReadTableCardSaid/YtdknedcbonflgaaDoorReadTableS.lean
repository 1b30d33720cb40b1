/- Read Table: what strings.Join returns: the library's contract, laid at this program by its tool. -/
import Derived.Shelf.Strings.OnBuilder
import Derived.Test.YtdknedcbonflgaaDoorProg
import Derived.Test.YtdknedcbonflgaaDoorReadTableT
set_option linter.unusedVariables false
set_option linter.unusedSimpArgs false
namespace Go.Proofs.YtdknedcbonflgaaDoor
open Go.RowKit Go.X
open Go.Shelf
def BG:Go.Shelf.Ren:=⟨fun | 156=>39 | 165=>49 | 166=>50 | 169=>51 | 240=>65 | 241=>66 | 276=>77 | 277=>78 | n=>n,fun | 31=>22 | 9=>9 | 3=>3 | 4=>4 | 0=>0 | 20=>20 | 72=>67 | 76=>56 | 70=>65 | 37=>61 | 75=>55 | 127=>83 | 164=>99 | 5=>5 | 80=>69 | n=>n,fun | n=>n⟩
theorem qJ:Go.Proofs.Lays.n156 Tryd.prog BG:={
 mixed:=by kernel_rfl
 f156:=Tryd.func39.trans (congrArg some (by kernel_rfl))
 f165:=Tryd.func49.trans (congrArg some (by kernel_rfl))
 f166:=Tryd.func50.trans (congrArg some (by kernel_rfl))
 f169:=Tryd.func51.trans (congrArg some (by kernel_rfl))
 f240:=Tryd.func65.trans (congrArg some (by kernel_rfl))
 f241:=Tryd.func66.trans (congrArg some (by kernel_rfl))
 f276:=Tryd.func77.trans (congrArg some (by kernel_rfl))
 f277:=Tryd.func78.trans (congrArg some (by kernel_rfl))
 t0:=Tryd.underlying0
 a0:=Tryd.isAgg0
 z0:=Tryd.sizeOf0
 v0:=Tryd.zeroValue0
 t3:=Tryd.underlying3
 a3:=Tryd.isAgg3
 z3:=Tryd.sizeOf3
 v3:=Tryd.zeroValue3
 t4:=Tryd.underlying4
 a4:=Tryd.isAgg4
 z4:=Tryd.sizeOf4
 v4:=Tryd.zeroValue4
 t9:=Tryd.underlying9
 a9:=Tryd.isAgg9
 z9:=Tryd.sizeOf9
 v9:=Tryd.zeroValue9
 t20:=Tryd.underlying20
 a20:=Tryd.isAgg20
 z20:=Tryd.sizeOf20
 v20:=Tryd.zeroValue20
 t31:=Tryd.underlying22
 a31:=Tryd.isAgg22
 z31:=Tryd.sizeOf22
 v31:=Tryd.zeroValue22
 t37:=Tryd.underlying61
 a37:=Tryd.isAgg61
 z37:=Tryd.sizeOf61
 v37:=Tryd.zeroValue61
 t70:=Tryd.underlying65
 a70:=Tryd.isAgg65
 z70:=Tryd.sizeOf65
 v70:=Tryd.zeroValue65
 t72:=Tryd.underlying67
 a72:=Tryd.isAgg67
 z72:=Tryd.sizeOf67
 v72:=Tryd.zeroValue67
 t75:=Tryd.underlying55
 a75:=Tryd.isAgg55
 z75:=Tryd.sizeOf55
 v75:=Tryd.zeroValue55
 t76:=Tryd.underlying56
 a76:=Tryd.isAgg56
 z76:=Tryd.sizeOf56
 v76:=Tryd.zeroValue56
 t127:=Tryd.underlying83
 a127:=Tryd.isAgg83
 z127:=Tryd.sizeOf83
 v127:=Tryd.zeroValue83
 t164:=Tryd.underlying99
 a164:=Tryd.isAgg99
 z164:=Tryd.sizeOf99
 v164:=Tryd.zeroValue99}
theorem vE:Builder.Extra Tryd.prog BG:={
 sizeBuilder:=by kernel_rfl
 liesBuilder:=by kernel_rfl
 t5:=Tryd.underlying5
 a5:=Tryd.isAgg5
 z5:=Tryd.sizeOf5
 v5:=Tryd.zeroValue5
 infoByte:=by kernel_rfl
 cellsByte:=by kernel_rfl
 sizeByte:=by kernel_rfl
 neB5:=by decide}
open Go.RowKit in
/-- No element: the empty string; the world is as it was. (Whatever the slice's address and capacity: a nil slice too.) (LAID: no walk: one application.) -/
theorem strings_Join_none(a:Option Addr)(c:Nat)(sep:ByteArray)(w:World) :
  Calls Tryd.prog 39 #[.slice a 0 c,.string sep] w fun e w'=>e=.returned (.string ⟨#[]⟩)∧w'=w:=Any.strings_Join_none qJ vE a c sep w
open Go.RowKit in
/-- strings.Join: "Join concatenates the elements of its first argument to create a single string. The separator string sep is placed between elements in the resulting string.": HOWEVER MANY ELEMENTS. Below the heap's end the world is as it was. (LAID: no walk: one application.) -/
theorem strings_Join(bk o c:Nat)(xs:List ByteArray)(sep:ByteArray)(w:World)(hcells:∀(j:Nat) x,xs[j]? = some x→w.cell? ⟨bk,o+j,none⟩=some (.string x))(hbk:bk<w.heap.size)(hN:xs.length≤140737488355328)(hcap:xs.length≤c)(hlen:(Lib.join (xs.map (·.data.toList)) sep.data.toList).length≤140737488355328) :
  Calls Tryd.prog 39 #[.slice (some ⟨bk,o,none⟩) xs.length c,.string sep] w fun e w'=>e=.returned (.string ⟨(Lib.join (xs.map (·.data.toList)) sep.data.toList).toArray⟩)∧Below w.heap.size w w':=Any.strings_Join qJ vE bk o c xs sep w hcells hbk hN hcap hlen
theorem nG{A1:Option Addr}{c1:Nat}{w:World}(vD:List nA)(oB:nA)(h1:nC w (Iv 0 w.heap.size) (RF kC) 1 A1 vD.length c1 vD)(o2:BF bD vD)(o3:bD oB)(pre0:(DA vD oB).length≤1073741824):OD Tryd.prog 39 #[.slice A1 vD.length c1,.string (bs (oB))] w fun v w'=>v=.string (bs ((DA vD oB)))∧bD (DA vD oB)∧Ex w w':=by
 have hj:(vD.map bs).map (·.data.toList)=vD:=by
  rw[List.map_map]
  exact List.map_id _
 have hr:Lib.join ((vD.map bs).map (·.data.toList)) (bs oB).data.toList=DA vD oB:=by rw[hj];rfl
 cases vD with
 | nil=>
  refine Calls.mono (strings_Join_none A1 c1 (bs oB) w) ?_
  rintro e w' ⟨he,rfl⟩
  exact⟨_,he,rfl,pre0,HA _⟩
 | cons x xs=>
  obtain⟨b,off,cs,hA,-,hb,-,-,-⟩:=nC.atD h1 gA (i:=0) (Nat.succ_pos _)
  subst hA
  have hl:(x::xs).length=((x::xs).map bs).length:=(List.length_map ..).symm
  have hc:=strings_Join b off c1 ((x::xs).map bs) (bs oB) w (fun j y hy=>by
   rw[List.getElem?_map]at hy
   cases hx:(x::xs)[j]? with
   | none=>rw[hx]at hy;cases hy
   | some z=>
    rw[hx]at hy
    obtain⟨hjl,hz⟩:=List.getElem?_eq_some_iff.1 hx
    obtain⟨b',off',cs',hA',-,-,-,hR,hC⟩:=nC.at h1 hjl
    cases hA'
    rw[hz]at hR
    have h3:=hC 0 (.string (bs z)) (by rw[show cs'=[.string (bs z)]from hR];rfl)
    rw[←Option.some.inj hy]
    simpa using h3) hb (by have:=o2.1;omega) (by rw[←hl];exact h1.2.1) (by rw[hr];omega)
  rw[←hl,hr]at hc
  refine Calls.mono hc ?_
  rintro e w' ⟨he,hw⟩
  exact⟨_,he,rfl,pre0,hw⟩
end Go.Proofs.YtdknedcbonflgaaDoor
