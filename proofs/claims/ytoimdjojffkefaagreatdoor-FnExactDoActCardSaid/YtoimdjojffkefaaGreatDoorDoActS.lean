/- Do Act: what strings.Join returns: the library's contract, laid at this program by its tool. -/
import Derived.Shelf.Strings.OnBuilder
import Derived.Test.YtoimdjojffkefaaGreatDoorProg
import Derived.Test.YtoimdjojffkefaaGreatDoorDoActT
set_option linter.unusedVariables false
set_option linter.unusedSimpArgs false
namespace Go.Proofs.YtoimdjojffkefaaGreatDoor
open Go.RowKit Go.X
open Go.Shelf
def sN:Go.Shelf.Ren:=⟨fun | 156=>119 | 165=>164 | 166=>165 | 169=>166 | 240=>197 | 241=>198 | 276=>229 | 277=>230 | n=>n,fun | 31=>22 | 9=>9 | 3=>3 | 4=>4 | 0=>0 | 20=>20 | 72=>206 | 76=>210 | 70=>204 | 37=>127 | 75=>209 | 127=>231 | 164=>255 | 5=>5 | 80=>212 | n=>n,fun | n=>n⟩
theorem nT:Go.Proofs.Lays.n156 Tryz.prog sN:={
 mixed:=by kernel_rfl
 f156:=Tryz.func119.trans (congrArg some (by kernel_rfl))
 f165:=Tryz.func164.trans (congrArg some (by kernel_rfl))
 f166:=Tryz.func165.trans (congrArg some (by kernel_rfl))
 f169:=Tryz.func166.trans (congrArg some (by kernel_rfl))
 f240:=Tryz.func197.trans (congrArg some (by kernel_rfl))
 f241:=Tryz.func198.trans (congrArg some (by kernel_rfl))
 f276:=Tryz.func229.trans (congrArg some (by kernel_rfl))
 f277:=Tryz.func230.trans (congrArg some (by kernel_rfl))
 t0:=Tryz.underlying0
 a0:=Tryz.isAgg0
 z0:=Tryz.sizeOf0
 v0:=Tryz.zeroValue0
 t3:=Tryz.underlying3
 a3:=Tryz.isAgg3
 z3:=Tryz.sizeOf3
 v3:=Tryz.zeroValue3
 t4:=Tryz.underlying4
 a4:=Tryz.isAgg4
 z4:=Tryz.sizeOf4
 v4:=Tryz.zeroValue4
 t9:=Tryz.underlying9
 a9:=Tryz.isAgg9
 z9:=Tryz.sizeOf9
 v9:=Tryz.zeroValue9
 t20:=Tryz.underlying20
 a20:=Tryz.isAgg20
 z20:=Tryz.sizeOf20
 v20:=Tryz.zeroValue20
 t31:=Tryz.underlying22
 a31:=Tryz.isAgg22
 z31:=Tryz.sizeOf22
 v31:=Tryz.zeroValue22
 t37:=Tryz.underlying127
 a37:=Tryz.isAgg127
 z37:=Tryz.sizeOf127
 v37:=Tryz.zeroValue127
 t70:=Tryz.underlying204
 a70:=Tryz.isAgg204
 z70:=Tryz.sizeOf204
 v70:=Tryz.zeroValue204
 t72:=Tryz.underlying206
 a72:=Tryz.isAgg206
 z72:=Tryz.sizeOf206
 v72:=Tryz.zeroValue206
 t75:=Tryz.underlying209
 a75:=Tryz.isAgg209
 z75:=Tryz.sizeOf209
 v75:=Tryz.zeroValue209
 t76:=Tryz.underlying210
 a76:=Tryz.isAgg210
 z76:=Tryz.sizeOf210
 v76:=Tryz.zeroValue210
 t127:=Tryz.underlying231
 a127:=Tryz.isAgg231
 z127:=Tryz.sizeOf231
 v127:=Tryz.zeroValue231
 t164:=Tryz.underlying255
 a164:=Tryz.isAgg255
 z164:=Tryz.sizeOf255
 v164:=Tryz.zeroValue255}
theorem VJ:Builder.Extra Tryz.prog sN:={
 sizeBuilder:=by kernel_rfl
 liesBuilder:=by kernel_rfl
 t5:=Tryz.underlying5
 a5:=Tryz.isAgg5
 z5:=Tryz.sizeOf5
 v5:=Tryz.zeroValue5
 infoByte:=by kernel_rfl
 cellsByte:=by kernel_rfl
 sizeByte:=by kernel_rfl
 neB5:=by decide}
open Go.RowKit in
/-- No element: the empty string; the world is as it was. (Whatever the slice's address and capacity: a nil slice too.) (LAID: no walk: one application.) -/
theorem strings_Join_none(a:Option Addr)(c:Nat)(sep:ByteArray)(w:World) :
  Calls Tryz.prog 119 #[.slice a 0 c,.string sep] w fun e w'=>e=.returned (.string ⟨#[]⟩)∧w'=w:=Any.strings_Join_none nT VJ a c sep w
open Go.RowKit in
/-- strings.Join: "Join concatenates the elements of its first argument to create a single string. The separator string sep is placed between elements in the resulting string.": HOWEVER MANY ELEMENTS. Below the heap's end the world is as it was. (LAID: no walk: one application.) -/
theorem strings_Join(bk o c:Nat)(xs:List ByteArray)(sep:ByteArray)(w:World)(hcells:∀(j:Nat) x,xs[j]? = some x→w.cell? ⟨bk,o+j,none⟩=some (.string x))(hbk:bk<w.heap.size)(hN:xs.length≤140737488355328)(hcap:xs.length≤c)(hlen:(Lib.join (xs.map (·.data.toList)) sep.data.toList).length≤140737488355328) :
  Calls Tryz.prog 119 #[.slice (some ⟨bk,o,none⟩) xs.length c,.string sep] w fun e w'=>e=.returned (.string ⟨(Lib.join (xs.map (·.data.toList)) sep.data.toList).toArray⟩)∧Below w.heap.size w w':=Any.strings_Join nT VJ bk o c xs sep w hcells hbk hN hcap hlen
theorem SM{A1:Option Addr}{c1:Nat}{w:World}(dI:List KA)(QI:KA)(h1:rC w (Iv 0 w.heap.size) (RF NB) 1 A1 dI.length c1 dI)(o2:SF PF dI)(o3:PF QI)(pre0:(fD dI QI).length≤1073741824):rE Tryz.prog 119 #[.slice A1 dI.length c1,.string (bs (QI))] w fun v w'=>v=.string (bs ((fD dI QI)))∧PF (fD dI QI)∧Ex w w':=by
 have hj:(dI.map bs).map (·.data.toList)=dI:=by
  rw[List.map_map]
  exact List.map_id _
 have hr:Lib.join ((dI.map bs).map (·.data.toList)) (bs QI).data.toList=fD dI QI:=by rw[hj];rfl
 cases dI with
 | nil=>
  refine Calls.mono (strings_Join_none A1 c1 (bs QI) w) ?_
  rintro e w' ⟨he,rfl⟩
  exact⟨_,he,rfl,pre0,tA _⟩
 | cons x xs=>
  obtain⟨b,off,cs,hA,-,hb,-,-,-⟩:=jE h1 WA (i:=0) (Nat.succ_pos _)
  subst hA
  have hl:(x::xs).length=((x::xs).map bs).length:=(List.length_map ..).symm
  have hc:=strings_Join b off c1 ((x::xs).map bs) (bs QI) w (fun j y hy=>by
   rw[List.getElem?_map]at hy
   cases hx:(x::xs)[j]? with
   | none=>rw[hx]at hy;cases hy
   | some z=>
    rw[hx]at hy
    obtain⟨hjl,hz⟩:=List.getElem?_eq_some_iff.1 hx
    obtain⟨b',off',cs',hA',-,-,-,hR,hC⟩:=rC.at h1 hjl
    cases hA'
    rw[hz]at hR
    have h3:=hC 0 (.string (bs z)) (by rw[show cs'=[.string (bs z)]from hR];rfl)
    rw[←Option.some.inj hy]
    simpa using h3) hb (by have:=o2.1;omega) (by rw[←hl];exact h1.2.1) (by rw[hr];omega)
  rw[←hl,hr]at hc
  refine Calls.mono hc ?_
  rintro e w' ⟨he,hw⟩
  exact⟨_,he,rfl,pre0,hw⟩
end Go.Proofs.YtoimdjojffkefaaGreatDoor
