/- Fn Pieces: what strings.Join returns: the library's contract, laid at this program by its tool. -/
import Derived.Shelf.Strings.OnBuilder
import Derived.Test.YtjgimhdmpcincaaGreatDoorProg
import Derived.Test.YtjgimhdmpcincaaGreatDoorFnPiecesT
set_option linter.unusedVariables false
set_option linter.unusedSimpArgs false
namespace Go.Proofs.YtjgimhdmpcincaaGreatDoor
open Go.RowKit Go.X
open Go.Shelf
def JQ:Go.Shelf.Ren:=⟨fun | 156=>83 | 165=>117 | 166=>118 | 169=>119 | 240=>144 | 241=>145 | 276=>163 | 277=>164 | n=>n,fun | 31=>23 | 9=>9 | 3=>3 | 4=>4 | 0=>0 | 20=>20 | 72=>151 | 76=>155 | 70=>149 | 37=>22 | 75=>154 | 127=>173 | 164=>181 | 5=>5 | 80=>141 | n=>n,fun | n=>n⟩
theorem TW:Go.Proofs.Lays.n156 Tryz.prog JQ:={
 mixed:=by kernel_rfl
 f156:=Tryz.func83.trans (congrArg some (by kernel_rfl))
 f165:=Tryz.func117.trans (congrArg some (by kernel_rfl))
 f166:=Tryz.func118.trans (congrArg some (by kernel_rfl))
 f169:=Tryz.func119.trans (congrArg some (by kernel_rfl))
 f240:=Tryz.func144.trans (congrArg some (by kernel_rfl))
 f241:=Tryz.func145.trans (congrArg some (by kernel_rfl))
 f276:=Tryz.func163.trans (congrArg some (by kernel_rfl))
 f277:=Tryz.func164.trans (congrArg some (by kernel_rfl))
 t0:=Tryz.underlying0
 a0:=Tryz.isAgg0
 z0:=Tryz.sizeOf0
 v0:=Tryz.zeroValue0
 t3:=Tryz.underlying3
 a3:=Tryz.isAgg3
 z3:=Tryz.sizeOf3
 v3:=Tryz.zeroValue3
 t4:=Tryz.underlying4
 a4:=Tryz.isAgg4
 z4:=Tryz.sizeOf4
 v4:=Tryz.zeroValue4
 t9:=Tryz.underlying9
 a9:=Tryz.isAgg9
 z9:=Tryz.sizeOf9
 v9:=Tryz.zeroValue9
 t20:=Tryz.underlying20
 a20:=Tryz.isAgg20
 z20:=Tryz.sizeOf20
 v20:=Tryz.zeroValue20
 t31:=Tryz.underlying23
 a31:=Tryz.isAgg23
 z31:=Tryz.sizeOf23
 v31:=Tryz.zeroValue23
 t37:=Tryz.underlying22
 a37:=Tryz.isAgg22
 z37:=Tryz.sizeOf22
 v37:=Tryz.zeroValue22
 t70:=Tryz.underlying149
 a70:=Tryz.isAgg149
 z70:=Tryz.sizeOf149
 v70:=Tryz.zeroValue149
 t72:=Tryz.underlying151
 a72:=Tryz.isAgg151
 z72:=Tryz.sizeOf151
 v72:=Tryz.zeroValue151
 t75:=Tryz.underlying154
 a75:=Tryz.isAgg154
 z75:=Tryz.sizeOf154
 v75:=Tryz.zeroValue154
 t76:=Tryz.underlying155
 a76:=Tryz.isAgg155
 z76:=Tryz.sizeOf155
 v76:=Tryz.zeroValue155
 t127:=Tryz.underlying173
 a127:=Tryz.isAgg173
 z127:=Tryz.sizeOf173
 v127:=Tryz.zeroValue173
 t164:=Tryz.underlying181
 a164:=Tryz.isAgg181
 z164:=Tryz.sizeOf181
 v164:=Tryz.zeroValue181}
theorem mM:Builder.Extra Tryz.prog JQ:={
 sizeBuilder:=by kernel_rfl
 liesBuilder:=by kernel_rfl
 t5:=Tryz.underlying5
 a5:=Tryz.isAgg5
 z5:=Tryz.sizeOf5
 v5:=Tryz.zeroValue5
 infoByte:=by kernel_rfl
 cellsByte:=by kernel_rfl
 sizeByte:=by kernel_rfl
 neB5:=by decide}
open Go.RowKit in
/-- No element: the empty string; the world is as it was. (Whatever the slice's address and capacity: a nil slice too.) (LAID: no walk: one application.) -/
theorem strings_Join_none(a:Option Addr)(c:Nat)(sep:ByteArray)(w:World) :
  Calls Tryz.prog 83 #[.slice a 0 c,.string sep] w fun e w'=>e=.returned (.string ⟨#[]⟩)∧w'=w:=Any.strings_Join_none TW mM a c sep w
open Go.RowKit in
/-- strings.Join: "Join concatenates the elements of its first argument to create a single string. The separator string sep is placed between elements in the resulting string.": HOWEVER MANY ELEMENTS. Below the heap's end the world is as it was. (LAID: no walk: one application.) -/
theorem strings_Join(bk o c:Nat)(xs:List ByteArray)(sep:ByteArray)(w:World)(hcells:∀(j:Nat) x,xs[j]? = some x→w.cell? ⟨bk,o+j,none⟩=some (.string x))(hbk:bk<w.heap.size)(hN:xs.length≤140737488355328)(hcap:xs.length≤c)(hlen:(Lib.join (xs.map (·.data.toList)) sep.data.toList).length≤140737488355328) :
  Calls Tryz.prog 83 #[.slice (some ⟨bk,o,none⟩) xs.length c,.string sep] w fun e w'=>e=.returned (.string ⟨(Lib.join (xs.map (·.data.toList)) sep.data.toList).toArray⟩)∧Below w.heap.size w w':=Any.strings_Join TW mM bk o c xs sep w hcells hbk hN hcap hlen
theorem WP{A1:Option Addr}{c1:Nat}{w:World}(eK:List uA)(cF:uA)(h1:kD w (Iv 0 w.heap.size) (RF nC) 1 A1 eK.length c1 eK)(o2:xF HE eK)(o3:HE cF)(pre0:(pF eK cF).length≤1073741824):TF Tryz.prog 83 #[.slice A1 eK.length c1,.string (bs (cF))] w fun v w'=>v=.string (bs ((pF eK cF)))∧HE (pF eK cF)∧Ex w w':=by
 have hj:(eK.map bs).map (·.data.toList)=eK:=by
  rw[List.map_map]
  exact List.map_id _
 have hr:Lib.join ((eK.map bs).map (·.data.toList)) (bs cF).data.toList=pF eK cF:=by rw[hj];rfl
 cases eK with
 | nil=>
  refine Calls.mono (strings_Join_none A1 c1 (bs cF) w) ?_
  rintro e w' ⟨he,rfl⟩
  exact⟨_,he,rfl,pre0,DA _⟩
 | cons x xs=>
  obtain⟨b,off,cs,hA,-,hb,-,-,-⟩:=HD h1 IB (i:=0) (Nat.succ_pos _)
  subst hA
  have hl:(x::xs).length=((x::xs).map bs).length:=(List.length_map ..).symm
  have hc:=strings_Join b off c1 ((x::xs).map bs) (bs cF) w (fun j y hy=>by
   rw[List.getElem?_map]at hy
   cases hx:(x::xs)[j]? with
   | none=>rw[hx]at hy;cases hy
   | some z=>
    rw[hx]at hy
    obtain⟨hjl,hz⟩:=List.getElem?_eq_some_iff.1 hx
    obtain⟨b',off',cs',hA',-,-,-,hR,hC⟩:=kD.at h1 hjl
    cases hA'
    rw[hz]at hR
    have h3:=hC 0 (.string (bs z)) (by rw[show cs'=[.string (bs z)]from hR];rfl)
    rw[←Option.some.inj hy]
    simpa using h3) hb (by have:=o2.1;omega) (by rw[←hl];exact h1.2.1) (by rw[hr];omega)
  rw[←hl,hr]at hc
  refine Calls.mono hc ?_
  rintro e w' ⟨he,hw⟩
  exact⟨_,he,rfl,pre0,hw⟩
end Go.Proofs.YtjgimhdmpcincaaGreatDoor
