/- Operations, one lemma each; what memory holds. -/
import Derived.Test.YtoimdjojffkefaaGreatDoorE1
import Derived.Laws.CopyRow
import Derived.Laws.Tables
import Derived.Laws.NewBlocks
import Derived.Laws.MakeOwn
import Derived.Laws.IdiomCopy
import Derived.IntWalk
import Derived.Laws.Closers25
set_option linter.unusedVariables false
set_option linter.unusedSimpArgs false
namespace Go.X
open Go.RowKit
/-! ### Worlds -/
def Ex(w w':World):Prop:=Below w.heap.size w w'
theorem Ex.refl(w:World):Ex w w:=Below.refl _ _
theorem Ex.size{w w':World}(h:Ex w w'):w.heap.size≤w'.heap.size:=Below.size h
theorem Ex.trans{a b c:World}(h:Ex a b)(k:Ex b c):Ex a c:=Below.trans h (Below.mono k (Below.size h))
theorem Ex.drew(w:World):Ex w w.drew:=Below.drew (Below.refl _ _)
theorem Below.ex{B:Nat}{a b c:World}(h:Below B a b)(k:Ex b c)(hB:B≤b.heap.size):Below B a c:=h.trans (Below.mono k hB)
structure kN (b:Nat) (w w':World):Prop where
 os:w'.os=w.os
 tape:w'.tape=w.tape
 output:w'.output=w.output
 size:w'.heap.size=w.heap.size
 block:∀k,k≠b→w'.heap[k]? = w.heap[k]?
theorem Below.only{B b:Nat}{a w w':World}(h:Below B a w)(k:kN b w w')(hb:B≤b):Below B a w':=
 ⟨k.os.trans h.os,k.tape.trans h.tape,k.output.trans h.output,by rw[k.size];exact h.size,fun i hi=>(k.block i (by omega)).trans (h.block i hi)⟩
def ZF(w:World)(b:Nat)(T:TypeId)(cs:List Value):Prop:=w.heap[b]? = some (.cells cs.toArray T (0,0))
theorem ZF.lt{w:World}{b:Nat}{T:TypeId}{cs:List Value}(h:ZF w b T cs):b<w.heap.size:=by
 rcases Nat.lt_or_ge b w.heap.size with hlt | hge
 ·exact hlt
 ·unfold ZF at h;rw[Array.getElem?_eq_none hge]at h;cases h
theorem ZF.ex{w w':World}{b:Nat}{T:TypeId}{cs:List Value}(h:ZF w b T cs)(e:Ex w w'):ZF w' b T cs:=(Below.block e b h.lt).trans h
theorem ZF.only{w w':World}{b b':Nat}{T:TypeId}{cs:List Value}(h:ZF w b T cs)(e:kN b' w w')(hn:b≠b'):ZF w' b T cs:=(e.block b hn).trans h
theorem ZF.cell{w:World}{b:Nat}{T:TypeId}{cs:List Value}(h:ZF w b T cs)(i:Nat):w.cell? ⟨b,i,none⟩=cs[i]? := by
 unfold ZF at h
 simp[World.cell?,h]
theorem ZF.frozen{w:World}{b:Nat}{T:TypeId}{cs:List Value}(h:ZF w b T cs)(i:Nat):w.frozen? ⟨b,i,none⟩=false:=by
 unfold ZF at h
 simp[World.frozen?,h]
def VH(w:World)(b o:Nat)(cs:List Value):Prop:=∀j u,cs[j]? = some u→w.cell? ⟨b,o+j,none⟩=some u
theorem ZF.cells{w:World}{b:Nat}{T:TypeId}{cs:List Value}(h:ZF w b T cs){o n:Nat}{sub:List Value}(hs:(cs.drop o).take n=sub):VH w b o sub:=by
 intro j u hu
 subst hs
 rw[h.cell]
 rw[List.getElem?_take]at hu
 split at hu
 ·rwa[List.getElem?_drop]at hu
 ·cases hu
theorem VH.block_lt{w:World}{b o:Nat}{cs:List Value}(h:VH w b o cs)(hl:0<cs.length):b<w.heap.size:=by
 have:=h 0 _ (List.getElem?_eq_getElem hl)
 rcases Nat.lt_or_ge b w.heap.size with hlt | hge
 ·exact hlt
 ·simp[World.cell?,Array.getElem?_eq_none hge]at this
theorem VH.keep{w w':World}{b o:Nat}{cs:List Value}(h:VH w b o cs)(hk:w'.heap[b]? = w.heap[b]?):VH w' b o cs:=by
 intro j u hu
 have:=h j u hu
 simpa [World.cell?,hk]using this
theorem VH.ex{w w':World}{b o:Nat}{cs:List Value}(h:VH w b o cs)(e:Ex w w'):VH w' b o cs:=by
 rcases Nat.eq_zero_or_pos cs.length with h0 | h0
 ·intro j u hu;rw[List.eq_nil_of_length_eq_zero h0]at hu;simp at hu
 ·exact h.keep (Below.block e b (h.block_lt h0))
theorem VH.only{w w':World}{b b' o:Nat}{cs:List Value}(h:VH w b o cs)(e:kN b' w w')(hn:b≠b'):VH w' b o cs:=h.keep (e.block b hn)
theorem oJ(b o k:Nat):(⟨b,o,none⟩:Addr).add k=⟨b,o+k,none⟩:=by
 unfold Addr.add;split<;>simp_all
/-! ### Types -/
def Ec:TypeDesc→Bool
 | .struct _ | .array _ _=>true
 | _=>false
def sK(P:Program)(T:TypeId):Option (Nat×Nat×Option Value×Bool):=
 match P.info? T,P.underlying T with
 | some i,some d=>some (i.size,i.bytes,i.zero,Ec d)
 | _,_=>none
theorem sK.spec{P:Program}{T:TypeId}{sz bytes:Nat}{z:Option Value}{ag:Bool}(h:sK P T=some (sz,bytes,z,ag)) :
  ∃i d,P.info? T=some i∧P.underlying T=some d∧i.size=sz∧i.bytes=bytes∧i.zero=z∧Ec d=ag:=by
 unfold sK at h
 cases hi:P.info? T with
 | none=>simp[hi]at h
 | some i=>
  cases hd:P.underlying T with
  | none=>simp[hi,hd]at h
  | some d=>
   simp only[hi,hd,Option.some.injEq,Prod.mk.injEq]at h
   exact⟨i,d,rfl,rfl,h.1,h.2.1,h.2.2.1,h.2.2.2⟩
def BF(P:Program)(T:TypeId)(k:Nat):Option (Nat×Nat×Bool):=
 match P.underlying T with
 | some (.struct fs)=>match fs[k]? with
  | some f=>match sK P f.type with
   | some (sz,_,_,ag)=>some (f.offset,sz,ag)
   | none=>none
  | none=>none
 | _=>none
section
variable {P:Program}{o:Oper}{L:List (Nat×Value)}{w:World}{R:Value→World→Prop}
theorem Yl.val{v:Value}(h:∀ρ,Xb L ρ→(execOp ρ o).run P w=.ok (.value v) w)(hR:R v w):Yl P o L w R:=fun ρ hρ=>by
 unfold iQ;rw[h ρ hρ];exact hR
theorem yM{x:Operand}{v:Value}(ho:o.op=.move x)(hx:rG L x=some v)(hR:R v w):Yl P o L w R:=
 .val (v:=v) (fun ρ hρ=>by simp[execOp,ho,hρ x v hx]) hR
theorem yA{x:Operand}{v:Value}(ho:o.op=.assign x)(hx:rG L x=some v)(hR:R v w):Yl P o L w R:=
 .val (v:=v) (fun ρ hρ=>by simp[execOp,ho,hρ x v hx]) hR
theorem IA{c x y:Operand}{g:Bool}{v:Value}(ho:o.op=.pick c x y)(hc:rG L c=some (.bool g))(hg:g=true)(hx:rG L x=some v)(hR:R v w):Yl P o L w R:=
 .val (v:=v) (fun ρ hρ=>by simp[execOp,ho,hρ x v hx,hρ c _ hc,asBool,hg]) hR
theorem DA{c x y:Operand}{g:Bool}{v:Value}(ho:o.op=.pick c x y)(hc:rG L c=some (.bool g))(hg:g=false)(hx:rG L y=some v)(hR:R v w):Yl P o L w R:=
 .val (v:=v) (fun ρ hρ=>by simp[execOp,ho,hρ y v hx,hρ c _ hc,asBool,hg]) hR
theorem vB{x:Operand}{i:Nat}{vs:Array Value}{v:Value}(ho:o.op=.extract x i)(hx:rG L x=some (.tuple vs))(hv:vs[i]? = some v)(hR:R v w):Yl P o L w R:=
 .val (v:=v) (fun ρ hρ=>by simp[execOp,ho,hρ x _ hx,Instr.extract,hv]) hR
theorem FC{x:Operand}{t:TypeId}{g:Bool}(ho:o.op=.unOp .not t x)(hx:rG L x=some (.bool g))(hR:R (.bool !g) w):Yl P o L w R:=
 .val (v:=.bool !g) (fun ρ hρ=>by simp[execOp,ho,hρ x _ hx,Op.unary]) hR
theorem Ub{x:Operand}{t:TypeId}{k:IntKind}{n:Int}(ho:o.op=.unOp .neg t x)(hx:rG L x=some (.int k n))(hR:R (.int k (k.wrap (0-n))) w):Yl P o L w R:=
 .val (v:=.int k (k.wrap (0-n))) (fun ρ hρ=>by simp[execOp,ho,hρ x _ hx,Op.unary,Op.intArith]) hR
def Wa:Value→Bool
 | .agg _ | .nilIface=>false
 | _=>true
theorem VM(op:BinOp)(t:TypeId)(x y:Operand)(u v:Value)(hu:Wa u=true)(w:World):(eqGuard op t x y u v).run P w=.ok () w:=by
 unfold eqGuard
 cases op<;>cases u<;>first | rfl | (simp[Wa]at hu)
theorem iJ(op:BinOp)(t:TypeId)(x y:Operand)(k:IntKind)(a:Int)(v:Value)(w:World):(eqGuard op t x y (.int k a) v).run P w=.ok () w:=VM op t x y _ v rfl w
theorem nX(op:BinOp)(t:TypeId)(x y:Operand)(a:Bool)(v:Value)(w:World):(eqGuard op t x y (.bool a) v).run P w=.ok () w:=VM op t x y _ v rfl w
theorem ZJ(op:BinOp)(t:TypeId)(x y:Operand)(a:ByteArray)(v:Value)(w:World):(eqGuard op t x y (.string a) v).run P w=.ok () w:=VM op t x y _ v rfl w
section ints
variable {x y:Operand}{t t':TypeId}{k:IntKind}{a b:Int}
theorem RH(ho:o.op=.binOp .add t x y t')(hx:rG L x=some (.int k a))(hy:rG L y=some (.int k b))(hR:R (.int k (k.wrap (a+b))) w):Yl P o L w R:=
 .val (fun ρ hρ=>by simp[execOp,ho,hρ x _ hx,hρ y _ hy,iJ,binOp,Op.intArith]) hR
theorem AH(ho:o.op=.binOp .sub t x y t')(hx:rG L x=some (.int k a))(hy:rG L y=some (.int k b))(hR:R (.int k (k.wrap (a-b))) w):Yl P o L w R:=
 .val (fun ρ hρ=>by simp[execOp,ho,hρ x _ hx,hρ y _ hy,iJ,binOp,Op.intArith]) hR
theorem Tb(ho:o.op=.binOp .mul t x y t')(hx:rG L x=some (.int k a))(hy:rG L y=some (.int k b))(hR:R (.int k (k.wrap (a*b))) w):Yl P o L w R:=
 .val (fun ρ hρ=>by simp[execOp,ho,hρ x _ hx,hρ y _ hy,iJ,binOp,Op.intArith]) hR
theorem Vb(ho:o.op=.binOp .quo t x y t')(hx:rG L x=some (.int k a))(hy:rG L y=some (.int k b))(h0:b≠0)(hR:R (.int k (k.wrap (a.tdiv b))) w):Yl P o L w R:=
 .val (fun ρ hρ=>by simp[execOp,ho,hρ x _ hx,hρ y _ hy,iJ,binOp,Op.intDiv,h0]) hR
theorem bY(ho:o.op=.binOp .rem t x y t')(hx:rG L x=some (.int k a))(hy:rG L y=some (.int k b))(h0:b≠0)(hR:R (.int k (a.tmod b)) w):Yl P o L w R:=
 .val (fun ρ hρ=>by simp[execOp,ho,hρ x _ hx,hρ y _ hy,iJ,binOp,Op.intDiv,h0]) hR
theorem uC(ho:o.op=.binOp .eql t x y t')(hx:rG L x=some (.int k a))(hy:rG L y=some (.int k b))(hR:R (.bool (decide (a=b))) w):Yl P o L w R:=
 .val (fun ρ hρ=>by simp[execOp,ho,hρ x _ hx,hρ y _ hy,iJ,binOp,Op.intCmp];rfl) hR
theorem zH(ho:o.op=.binOp .neq t x y t')(hx:rG L x=some (.int k a))(hy:rG L y=some (.int k b))(hR:R (.bool !(decide (a=b))) w):Yl P o L w R:=
 .val (fun ρ hρ=>by simp[execOp,ho,hρ x _ hx,hρ y _ hy,iJ,binOp,Op.intCmp,bne];rfl) hR
theorem xB(ho:o.op=.binOp .lss t x y t')(hx:rG L x=some (.int k a))(hy:rG L y=some (.int k b))(hR:R (.bool (decide (a<b))) w):Yl P o L w R:=
 .val (fun ρ hρ=>by simp[execOp,ho,hρ x _ hx,hρ y _ hy,iJ,binOp,Op.intCmp]) hR
theorem FK(ho:o.op=.binOp .leq t x y t')(hx:rG L x=some (.int k a))(hy:rG L y=some (.int k b))(hR:R (.bool (decide (a≤b))) w):Yl P o L w R:=
 .val (fun ρ hρ=>by simp[execOp,ho,hρ x _ hx,hρ y _ hy,iJ,binOp,Op.intCmp]) hR
theorem TH(ho:o.op=.binOp .gtr t x y t')(hx:rG L x=some (.int k a))(hy:rG L y=some (.int k b))(hR:R (.bool (decide (b<a))) w):Yl P o L w R:=
 .val (fun ρ hρ=>by simp[execOp,ho,hρ x _ hx,hρ y _ hy,iJ,binOp,Op.intCmp]) hR
theorem SH(ho:o.op=.binOp .geq t x y t')(hx:rG L x=some (.int k a))(hy:rG L y=some (.int k b))(hR:R (.bool (decide (b≤a))) w):Yl P o L w R:=
 .val (fun ρ hρ=>by simp[execOp,ho,hρ x _ hx,hρ y _ hy,iJ,binOp,Op.intCmp]) hR
end ints
/-! ### Bools -/
theorem run_equalIn_bool{t:TypeId}(hu:P.underlying t=some .bool)(a b:Bool)(d:Nat)(w:World):(Op.equalIn (d+1) t (.bool a) (.bool b)).run P w=.ok (a==b) w:=by
 simp[Op.equalIn,run_underlying hu]
theorem YP{x y:Operand}{t t':TypeId}{a b:Bool}(hu:P.underlying t=some .bool)(ho:o.op=.binOp .neq t x y t')(hx:rG L x=some (.bool a))(hy:rG L y=some (.bool b))(hR:R (.bool !(a==b)) w):Yl P o L w R:=
 .val (fun ρ hρ=>by
  have e:binOp .neq t (.bool a) (.bool b)=(do pure (.bool !(←Op.equalIn (9999+1) t (.bool a) (.bool b)))):=rfl
  simp only[execOp,ho,hρ x _ hx,hρ y _ hy,Sem.run_bind,nX,Result.andThen_ok,e,run_equalIn_bool hu,Sem.run_pure]) hR
/-! ### Strings: lists of bytes -/
abbrev vA:=List UInt8
def bs(l:vA):ByteArray:=⟨l.toArray⟩
theorem OM(l:vA):(bs l).size=l.length:=rfl
theorem gJ(l:vA):(bs l).toList=l:=by rw[ByteArray.toList_eq];rfl
theorem KY(l m:vA):bs l++bs m=bs (l++m):=by
 apply ByteArray.ext
 simp[bs,ByteArray.data_append]
def eJ:vA→vA→Bool:=Op.bytesLess
def iN(a b:vA):Bool:=eJ a b||a==b
section strs
variable {x y:Operand}{t t':TypeId}{a b:vA}
theorem qD(ho:o.op=.binOp .add t x y t')(hx:rG L x=some (.string (bs a)))(hy:rG L y=some (.string (bs b)))(hl:a.length+b.length≤9223372036854775807)(hR:R (.string (bs (a++b))) w):Yl P o L w R:=
 .val (fun ρ hρ=>by
  have h:¬((((bs a).size+(bs b).size:Nat):Int)>IntKind.i64.max):=by rw[OM,OM];have:IntKind.i64.max=9223372036854775807:=rfl;omega
  simp only[execOp,ho,hρ x _ hx,hρ y _ hy,Sem.run_bind,ZJ,Result.andThen_ok,binOp,Op.stringOp,if_neg h,KY,Sem.run_pure]) hR
theorem zE(ho:o.op=.binOp .eql t x y t')(hx:rG L x=some (.string (bs a)))(hy:rG L y=some (.string (bs b)))(hR:R (.bool (a==b)) w):Yl P o L w R:=
 .val (fun ρ hρ=>by simp only[execOp,ho,hρ x _ hx,hρ y _ hy,Sem.run_bind,ZJ,Result.andThen_ok,binOp,Op.stringOp,gJ,Sem.run_pure]) hR
theorem pE(ho:o.op=.binOp .neq t x y t')(hx:rG L x=some (.string (bs a)))(hy:rG L y=some (.string (bs b)))(hR:R (.bool !(a==b)) w):Yl P o L w R:=
 .val (fun ρ hρ=>by simp only[execOp,ho,hρ x _ hx,hρ y _ hy,Sem.run_bind,ZJ,Result.andThen_ok,binOp,Op.stringOp,gJ,Sem.run_pure]) hR
theorem PU(ho:o.op=.binOp .lss t x y t')(hx:rG L x=some (.string (bs a)))(hy:rG L y=some (.string (bs b)))(hR:R (.bool (eJ a b)) w):Yl P o L w R:=
 .val (fun ρ hρ=>by simp only[execOp,ho,hρ x _ hx,hρ y _ hy,Sem.run_bind,ZJ,Result.andThen_ok,binOp,Op.stringOp,gJ,Sem.run_pure,eJ]) hR
theorem rR(ho:o.op=.binOp .leq t x y t')(hx:rG L x=some (.string (bs a)))(hy:rG L y=some (.string (bs b)))(hR:R (.bool (iN a b)) w):Yl P o L w R:=
 .val (fun ρ hρ=>by simp only[execOp,ho,hρ x _ hx,hρ y _ hy,Sem.run_bind,ZJ,Result.andThen_ok,binOp,Op.stringOp,gJ,Sem.run_pure,eJ,iN]) hR
theorem DY(ho:o.op=.binOp .gtr t x y t')(hx:rG L x=some (.string (bs a)))(hy:rG L y=some (.string (bs b)))(hR:R (.bool !(iN a b)) w):Yl P o L w R:=
 .val (fun ρ hρ=>by simp only[execOp,ho,hρ x _ hx,hρ y _ hy,Sem.run_bind,ZJ,Result.andThen_ok,binOp,Op.stringOp,gJ,Sem.run_pure,eJ,iN]) hR
theorem aQ(ho:o.op=.binOp .geq t x y t')(hx:rG L x=some (.string (bs a)))(hy:rG L y=some (.string (bs b)))(hR:R (.bool !(eJ a b)) w):Yl P o L w R:=
 .val (fun ρ hρ=>by simp only[execOp,ho,hρ x _ hx,hρ y _ hy,Sem.run_bind,ZJ,Result.andThen_ok,binOp,Op.stringOp,gJ,Sem.run_pure,eJ]) hR
theorem HZ(hu:P.underlying t=some .string){i:Int}{k:IntKind}(ho:o.op=.index t x y)(hx:rG L x=some (.string (bs a)))(hy:rG L y=some (.int k i))(h0:0≤i)(h1:i<a.length)
  (hR:R (.int .u8 (a.getD i.toNat 0).toNat) w):Yl P o L w R:=
 .val (fun ρ hρ=>by
  have hi:i.toNat<a.length:=by omega
  have hg:(bs a)[i.toNat]? = some (a.getD i.toNat 0):=by
   show(⟨a.toArray⟩:ByteArray)[i.toNat]? = _
   rw[getElem?_pos _ _ (by simpa [ByteArray.size]using hi)]
   simp[List.getD,List.getElem?_eq_getElem hi,ByteArray.getElem_eq_getElem_data]
  simp[execOp,ho,hρ x _ hx,hρ y _ hy,Instr.index,asIntOf,run_underlying hu,h0,hg]) hR
theorem DQ(hu:P.underlying t=some .string){lo hi:Option Operand}{l h:Nat}{kl kh:IntKind}(ho:o.op=.slice t x lo hi none)(hx:rG L x=some (.string (bs a)))
  (hlo:match lo with | some z=>rG L z=some (.int kl (l:Int)) | none=>l=0) (hhi:match hi with | some z=>rG L z=some (.int kh (h:Int)) | none=>h=a.length) (hlh:l≤h) (hha:h≤a.length)
  (hR:R (.string (bs ((a.take h).drop l))) w):Yl P o L w R:=
 .val (fun ρ hρ=>by
  have he:(bs a).extract l h=bs ((a.take h).drop l):=by
   apply ByteArray.ext
   simp[bs,ByteArray.data_extract,List.drop_take]
  have h1:(0:Int)≤l:=by omega
  have h2:(0:Int)≤h:=by omega
  have h3:(l:Int)≤h:=by omega
  have h4:(h:Int)≤a.length:=by omega
  rcases lo with _ | z<;>rcases hi with _ | z'<;>simp only at hlo hhi
  ·subst hlo;subst hhi
   simp[execOp,ho,hρ x _ hx,Instr.sliceAt,Instr.slice,run_underlying hu,Instr.sliceBounds,OM,he]
  ·subst hlo
   simp[execOp,ho,hρ x _ hx,hρ z' _ hhi,Instr.sliceAt,Instr.slice,run_underlying hu,Instr.sliceBounds,Instr.sliceBound,asIntOf,OM,he,hha]
  ·subst hhi
   simp[execOp,ho,hρ x _ hx,hρ z _ hlo,Instr.sliceAt,Instr.slice,run_underlying hu,Instr.sliceBounds,Instr.sliceBound,asIntOf,OM,he,hlh]
  ·simp[execOp,ho,hρ x _ hx,hρ z _ hlo,hρ z' _ hhi,Instr.sliceAt,Instr.slice,run_underlying hu,Instr.sliceBounds,Instr.sliceBound,asIntOf,OM,he,hlh,hha]) hR
theorem AE(hu:P.underlying t=some .string)(ho:o.op=.call { callee:=.builtin .len,args:=#[x],argTypes:=#[t]})(hx:rG L x=some (.string (bs a)))(hR:R (.int .i64 (a.length:Int)) w):Yl P o L w R:=
 .val (fun ρ hρ=>by simp[execOp,ho,hρ x _ hx,resolve,invoke,builtin,Builtin.len_,run_underlying hu,goInt,OM]) hR
end strs
/-! ### Slices -/
theorem yL{x:Operand}{t e:TypeId}{A:Option Addr}{n c:Nat}(hu:P.underlying t=some (.slice e))(ho:o.op=.call { callee:=.builtin .len,args:=#[x],argTypes:=#[t]})(hx:rG L x=some (.slice A n c))(hR:R (.int .i64 (n:Int)) w):Yl P o L w R:=
 .val (fun ρ hρ=>by simp[execOp,ho,hρ x _ hx,resolve,invoke,builtin,Builtin.len_,run_underlying hu,goInt]) hR
theorem ND{x y:Operand}{t e:TypeId}{A:Option Addr}{n c b off sz by_:Nat}{z:Option Value}{ag:Bool}{i:Int}{k:IntKind}(hu:P.underlying t=some (.slice e))(he:sK P e=some (sz,by_,z,ag))
  (ho:o.op=.indexAddr t x y) (hx:rG L x=some (.slice A n c)) (hy:rG L y=some (.int k i)) (hA:A=some ⟨b,off,none⟩) (h0:0≤i) (h1:i<n) (hR:R (.pointer (some ⟨b,off+i.toNat*sz,none⟩)) w):Yl P o L w R:=by
 obtain⟨ie,d,hi,_,hsz,_⟩:=sK.spec he
 subst hA
 refine .val (fun ρ hρ=>?_) hR
 simp[execOp,ho,hρ x _ hx,hρ y _ hy,Instr.indexAt,asIntOf,run_underlying hu,h0,h1,sizeOf,typeInfo,hi,hsz,oJ]
theorem cA{x:Operand}{t:TypeId}{k fo fz b off:Nat}{ag:Bool}(hf:BF P t k=some (fo,fz+1,ag))(ho:o.op=.fieldAddr t x k)(hx:rG L x=some (.pointer (some ⟨b,off,none⟩)))
  (hR:R (.pointer (some ⟨b,off+fo,none⟩)) w):Yl P o L w R:=by
 unfold BF at hf
 split at hf
 ·rename_i fs hu
  split at hf
  ·rename_i f hfk
   split at hf
   ·rename_i sz by_ z ag' hty
    simp only[Option.some.injEq,Prod.mk.injEq]at hf
    obtain⟨h1,h2,h3⟩:=hf
    obtain⟨ie,d,hi,_,hsz,_⟩:=sK.spec hty
    refine .val (fun ρ hρ=>?_) hR
    have hne:ie.size≠0:=by omega
    simp[execOp,ho,hρ x _ hx,Instr.fieldAt,run_underlying hu,hfk,Instr.sureAddr,fieldPlace,sizeOf,typeInfo,hi,hne,oJ,h1]
   ·cases hf
  ·cases hf
 ·cases hf
theorem zQ{T:TypeId}{sz by_:Nat}{z:Option Value}{ag:Bool}(h:sK P T=some (sz,by_,z,ag))(w:World):(isAgg T).run P w=.ok ag w:=by
 obtain⟨i,d,hi,hd,_,_,_,ha⟩:=sK.spec h
 unfold isAgg
 simp only[Sem.run_bind,run_underlying hd,Result.andThen_ok]
 subst ha
 cases d<;>rfl
theorem NK{T:TypeId}{sz by_:Nat}{z:Option Value}{ag:Bool}(h:sK P T=some (sz,by_,z,ag))(w:World):(sizeOf T).run P w=.ok sz w:=by
 obtain⟨i,d,hi,hd,hs,_⟩:=sK.spec h
 simp[sizeOf,typeInfo,hi,hs]
theorem rZ{T:TypeId}{sz by_:Nat}{z:Option Value}(h:sK P T=some (sz,by_,z,false)){a:Addr}{v:Value}(hc:w.cell? a=some v):(loadVar T a).run P w=.ok v w:=by
 unfold loadVar
 simp only[Sem.run_bind,zQ h,Result.andThen_ok]
 simp[load,Sem.run,hc]
theorem OC{T:TypeId}{sz by_:Nat}{z:Option Value}(h:sK P T=some (sz,by_,z,true)){b off:Nat}{cs:List Value}(hl:cs.length=sz)(hc:VH w b off cs):(loadVar T ⟨b,off,none⟩).run P w=.ok (.agg cs.toArray) w:=by
 unfold loadVar
 simp only[Sem.run_bind,zQ h,Result.andThen_ok,if_true,NK h]
 rw[←hl]
 have:=run_loadCells_list (P:=P) w ⟨b,off,none⟩ cs (fun j v hv=>by rw[oJ];exact hc j v hv)
 simp[this]
theorem mA{x:Operand}{T:TypeId}{sz by_:Nat}{z:Option Value}{a:Addr}{v:Value}(hT:sK P T=some (sz,by_,z,false))(ho:o.op=.load T x)(hx:rG L x=some (.pointer (some a)))(hc:w.cell? a=some v)(hR:R v w):Yl P o L w R:=
 .val (fun ρ hρ=>by
  simp only[execOp,ho,hρ x _ hx,Instr.loadAt,Instr.sureAddr,pure_bind,Sem.run_bind,rZ hT hc,Result.andThen_ok,Sem.run_pure]) hR
theorem GA{x:Operand}{T:TypeId}{sz by_:Nat}{z:Option Value}{b off:Nat}{cs:List Value}(hT:sK P T=some (sz,by_,z,true))(ho:o.op=.load T x)(hx:rG L x=some (.pointer (some ⟨b,off,none⟩)))(hc:VH w b off cs)(hl:cs.length=sz)(hR:R (.agg cs.toArray) w):Yl P o L w R:=
 .val (fun ρ hρ=>by
  simp only[execOp,ho,hρ x _ hx,Instr.loadAt,Instr.sureAddr,pure_bind,Sem.run_bind,OC hT hl hc,Result.andThen_ok,Sem.run_pure]) hR
theorem OJ(w:World)(cs:List Value)(T:TypeId):(w.alloc (.cells cs.toArray T)).heap.size=w.heap.size+1∧ZF (w.alloc (.cells cs.toArray T)) w.heap.size T cs∧Ex w (w.alloc (.cells cs.toArray T)):=
 ⟨Array.size_push ..,by show(w.heap.push _)[w.heap.size]? = _;simp,(Below.refl _ _).alloc (Nat.le_refl _) _⟩
theorem MC{x:Operand}{T:TypeId}{v:Value}{cs:List Value}(ho:o.op=.box T x)(hx:rG L x=some v)(hc:v.cells=cs.toArray)
  (hR:∀b w',w.heap.size=b→w'.heap.size=b+1→ZF w' b T cs→Ex w w'→R (.pointer (some ⟨b,0,none⟩)) w'):Yl P o L w R:=fun ρ hρ=>by
 obtain⟨h1,h2,h3⟩:=OJ w cs T
 have e:(execOp ρ o).run P w=.ok (.value (.pointer (some ⟨w.heap.size,0,none⟩))) (w.alloc (.cells cs.toArray T)):=by
  simp[execOp,ho,hρ x _ hx,Instr.box,newVar,newRow,hc]
 unfold iQ
 rw[e]
 exact hR _ _ rfl h1 h2 h3
theorem nS{T:TypeId}{sz by_:Nat}{z:Value}{ag:Bool}(h:sK P T=some (sz,by_,some z,ag))(w:World):(zeroValue T).run P w=.ok z w:=by
 obtain⟨i,d,hi,hd,_,_,hz,_⟩:=sK.spec h
 simp[zeroValue,typeInfo,hi,hz]
theorem yB{T:TypeId}{sz by_:Nat}{z:Value}{ag:Bool}{cs:List Value}(hT:sK P T=some (sz,by_,some z,ag))(ho:o.op=.alloc T)(hc:z.cells=cs.toArray)
  (hR:∀b w',w.heap.size=b→w'.heap.size=b+1→ZF w' b T cs→Ex w w'→R (.pointer (some ⟨b,0,none⟩)) w'):Yl P o L w R:=fun ρ hρ=>by
 obtain⟨h1,h2,h3⟩:=OJ w cs T
 have e:(execOp ρ o).run P w=.ok (.value (.pointer (some ⟨w.heap.size,0,none⟩))) (w.alloc (.cells cs.toArray T)):=by
  simp[execOp,ho,Instr.alloc,nS hT,newVar,newRow,hc]
 unfold iQ
 rw[e]
 exact hR _ _ rfl h1 h2 h3
def jE(cs:List Value)(off:Nat)(vs:List Value):List Value:=cs.take off++vs++cs.drop (off+vs.length)
theorem iK{cs vs:List Value}{off:Nat}(h:off+vs.length≤cs.length):(jE cs off vs).length=cs.length:=by
 simp[jE];omega
theorem FO(w:World)(b:Nat)(cs:Array Value):kN b w (w.setRow b cs):=
 ⟨rfl,rfl,rfl,by simp[World.setRow],fun k hk=>by simp[World.setRow,Array.getElem?_modify,Ne.symm hk]⟩
theorem iH{x y:Operand}{T T0:TypeId}{sz by_ b off:Nat}{z:Option Value}{ag:Bool}{v:Value}{vs cs:List Value}(hT:sK P T=some (sz,by_,z,ag))(ho:o.op=.store T x y)(hx:rG L x=some (.pointer (some ⟨b,off,none⟩)))
  (hy:rG L y=some v) (hc:v.cells=vs.toArray) (hl:vs.length=sz) (h1:vs.all Value.oneCell'=true) (hB:ZF w b T0 cs) (hoff:off+sz≤cs.length)
  (hR:∀w',ZF w' b T0 (jE cs off vs)→kN b w w'→R undef w'):Yl P o L w R:=fun ρ hρ=>by
 have h1':∀u∈vs,u.oneCell'=true:=by simpa using h1
 have hst:=run_storeCells_at (P:=P) b off T0 vs 0 cs.toArray w hB (by simp;omega) h1'
 have e:(execOp ρ o).run P w=.ok .skip (w.setRow b (jE cs off vs).toArray):=by
  simp only[execOp,ho,hρ x _ hx,hρ y _ hy,Instr.storeAt,Instr.sureAddr,pure_bind,storeVar,Sem.run_bind,NK hT,Result.andThen_ok,hc]
  have:¬(vs.toArray.size≠sz):=by simp[hl]
  simp only[if_neg this]
  simp only[Nat.add_zero]at hst
  rw[hst]
  rfl
 unfold iQ
 rw[e]
 refine hR _ ?_ (FO _ _ _)
 unfold ZF
 exact setRow_heap w b cs.toArray (jE cs off vs).toArray T0 _ hB
end
end Go.X
