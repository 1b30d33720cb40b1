/- Operations, one lemma each; what memory holds. -/
import Derived.Test.YtdknedcbonflgaaDoorE1
import Derived.Laws.CopyRow
import Derived.Laws.Tables
import Derived.Laws.NewBlocks
import Derived.Laws.MakeOwn
import Derived.Laws.IdiomCopy
import Derived.IntWalk
import Derived.Laws.Closers25
set_option linter.unusedVariables false
set_option linter.unusedSimpArgs false
namespace Go.X
open Go.RowKit
/-! ### Worlds -/
def Ex(w w':World):Prop:=Below w.heap.size w w'
theorem Ex.refl(w:World):Ex w w:=Below.refl _ _
theorem Ex.size{w w':World}(h:Ex w w'):w.heap.size≤w'.heap.size:=Below.size h
theorem Ex.trans{a b c:World}(h:Ex a b)(k:Ex b c):Ex a c:=Below.trans h (Below.mono k (Below.size h))
theorem Ex.drew(w:World):Ex w w.drew:=Below.drew (Below.refl _ _)
theorem Below.ex{B:Nat}{a b c:World}(h:Below B a b)(k:Ex b c)(hB:B≤b.heap.size):Below B a c:=h.trans (Below.mono k hB)
structure bF (b:Nat) (w w':World):Prop where
 os:w'.os=w.os
 tape:w'.tape=w.tape
 output:w'.output=w.output
 size:w'.heap.size=w.heap.size
 block:∀k,k≠b→w'.heap[k]? = w.heap[k]?
theorem Below.only{B b:Nat}{a w w':World}(h:Below B a w)(k:bF b w w')(hb:B≤b):Below B a w':=
 ⟨k.os.trans h.os,k.tape.trans h.tape,k.output.trans h.output,by rw[k.size];exact h.size,fun i hi=>(k.block i (by omega)).trans (h.block i hi)⟩
def eD(w:World)(b:Nat)(T:TypeId)(cs:List Value):Prop:=w.heap[b]? = some (.cells cs.toArray T (0,0))
theorem eD.lt{w:World}{b:Nat}{T:TypeId}{cs:List Value}(h:eD w b T cs):b<w.heap.size:=by
 rcases Nat.lt_or_ge b w.heap.size with hlt | hge
 ·exact hlt
 ·unfold eD at h;rw[Array.getElem?_eq_none hge]at h;cases h
theorem eD.ex{w w':World}{b:Nat}{T:TypeId}{cs:List Value}(h:eD w b T cs)(e:Ex w w'):eD w' b T cs:=(Below.block e b h.lt).trans h
theorem eD.only{w w':World}{b b':Nat}{T:TypeId}{cs:List Value}(h:eD w b T cs)(e:bF b' w w')(hn:b≠b'):eD w' b T cs:=(e.block b hn).trans h
theorem eD.cell{w:World}{b:Nat}{T:TypeId}{cs:List Value}(h:eD w b T cs)(i:Nat):w.cell? ⟨b,i,none⟩=cs[i]? := by
 unfold eD at h
 simp[World.cell?,h]
theorem eD.frozen{w:World}{b:Nat}{T:TypeId}{cs:List Value}(h:eD w b T cs)(i:Nat):w.frozen? ⟨b,i,none⟩=false:=by
 unfold eD at h
 simp[World.frozen?,h]
def YC(w:World)(b o:Nat)(cs:List Value):Prop:=∀j u,cs[j]? = some u→w.cell? ⟨b,o+j,none⟩=some u
theorem eD.cells{w:World}{b:Nat}{T:TypeId}{cs:List Value}(h:eD w b T cs){o n:Nat}{sub:List Value}(hs:(cs.drop o).take n=sub):YC w b o sub:=by
 intro j u hu
 subst hs
 rw[h.cell]
 rw[List.getElem?_take]at hu
 split at hu
 ·rwa[List.getElem?_drop]at hu
 ·cases hu
theorem YC.block_lt{w:World}{b o:Nat}{cs:List Value}(h:YC w b o cs)(hl:0<cs.length):b<w.heap.size:=by
 have:=h 0 _ (List.getElem?_eq_getElem hl)
 rcases Nat.lt_or_ge b w.heap.size with hlt | hge
 ·exact hlt
 ·simp[World.cell?,Array.getElem?_eq_none hge]at this
theorem YC.keep{w w':World}{b o:Nat}{cs:List Value}(h:YC w b o cs)(hk:w'.heap[b]? = w.heap[b]?):YC w' b o cs:=by
 intro j u hu
 have:=h j u hu
 simpa [World.cell?,hk]using this
theorem YC.ex{w w':World}{b o:Nat}{cs:List Value}(h:YC w b o cs)(e:Ex w w'):YC w' b o cs:=by
 rcases Nat.eq_zero_or_pos cs.length with h0 | h0
 ·intro j u hu;rw[List.eq_nil_of_length_eq_zero h0]at hu;simp at hu
 ·exact h.keep (Below.block e b (h.block_lt h0))
theorem YC.only{w w':World}{b b' o:Nat}{cs:List Value}(h:YC w b o cs)(e:bF b' w w')(hn:b≠b'):YC w' b o cs:=h.keep (e.block b hn)
theorem mE(b o k:Nat):(⟨b,o,none⟩:Addr).add k=⟨b,o+k,none⟩:=by
 unfold Addr.add;split<;>simp_all
/-! ### Types -/
def iL:TypeDesc→Bool
 | .struct _ | .array _ _=>true
 | _=>false
def KE(P:Program)(T:TypeId):Option (Nat×Nat×Option Value×Bool):=
 match P.info? T,P.underlying T with
 | some i,some d=>some (i.size,i.bytes,i.zero,iL d)
 | _,_=>none
theorem KE.spec{P:Program}{T:TypeId}{sz bytes:Nat}{z:Option Value}{ag:Bool}(h:KE P T=some (sz,bytes,z,ag)) :
  ∃i d,P.info? T=some i∧P.underlying T=some d∧i.size=sz∧i.bytes=bytes∧i.zero=z∧iL d=ag:=by
 unfold KE at h
 cases hi:P.info? T with
 | none=>simp[hi]at h
 | some i=>
  cases hd:P.underlying T with
  | none=>simp[hi,hd]at h
  | some d=>
   simp only[hi,hd,Option.some.injEq,Prod.mk.injEq]at h
   exact⟨i,d,rfl,rfl,h.1,h.2.1,h.2.2.1,h.2.2.2⟩
def oE(P:Program)(T:TypeId)(k:Nat):Option (Nat×Nat×Bool):=
 match P.underlying T with
 | some (.struct fs)=>match fs[k]? with
  | some f=>match KE P f.type with
   | some (sz,_,_,ag)=>some (f.offset,sz,ag)
   | none=>none
  | none=>none
 | _=>none
section
variable {P:Program}{o:Oper}{L:List (Nat×Value)}{w:World}{R:Value→World→Prop}
theorem Yl.val{v:Value}(h:∀ρ,zK L ρ→(execOp ρ o).run P w=.ok (.value v) w)(hR:R v w):Yl P o L w R:=fun ρ hρ=>by
 unfold CH;rw[h ρ hρ];exact hR
theorem yM{x:Operand}{v:Value}(ho:o.op=.move x)(hx:HC L x=some v)(hR:R v w):Yl P o L w R:=
 .val (v:=v) (fun ρ hρ=>by simp[execOp,ho,hρ x v hx]) hR
theorem yA{x:Operand}{v:Value}(ho:o.op=.assign x)(hx:HC L x=some v)(hR:R v w):Yl P o L w R:=
 .val (v:=v) (fun ρ hρ=>by simp[execOp,ho,hρ x v hx]) hR
theorem VA{c x y:Operand}{g:Bool}{v:Value}(ho:o.op=.pick c x y)(hc:HC L c=some (.bool g))(hg:g=true)(hx:HC L x=some v)(hR:R v w):Yl P o L w R:=
 .val (v:=v) (fun ρ hρ=>by simp[execOp,ho,hρ x v hx,hρ c _ hc,asBool,hg]) hR
theorem SA{c x y:Operand}{g:Bool}{v:Value}(ho:o.op=.pick c x y)(hc:HC L c=some (.bool g))(hg:g=false)(hx:HC L y=some v)(hR:R v w):Yl P o L w R:=
 .val (v:=v) (fun ρ hρ=>by simp[execOp,ho,hρ y v hx,hρ c _ hc,asBool,hg]) hR
theorem XB{x:Operand}{i:Nat}{vs:Array Value}{v:Value}(ho:o.op=.extract x i)(hx:HC L x=some (.tuple vs))(hv:vs[i]? = some v)(hR:R v w):Yl P o L w R:=
 .val (v:=v) (fun ρ hρ=>by simp[execOp,ho,hρ x _ hx,Instr.extract,hv]) hR
theorem TB{x:Operand}{t:TypeId}{g:Bool}(ho:o.op=.unOp .not t x)(hx:HC L x=some (.bool g))(hR:R (.bool !g) w):Yl P o L w R:=
 .val (v:=.bool !g) (fun ρ hρ=>by simp[execOp,ho,hρ x _ hx,Op.unary]) hR
def oK:Value→Bool
 | .agg _ | .nilIface=>false
 | _=>true
theorem lF(op:BinOp)(t:TypeId)(x y:Operand)(u v:Value)(hu:oK u=true)(w:World):(eqGuard op t x y u v).run P w=.ok () w:=by
 unfold eqGuard
 cases op<;>cases u<;>first | rfl | (simp[oK]at hu)
theorem tD(op:BinOp)(t:TypeId)(x y:Operand)(k:IntKind)(a:Int)(v:Value)(w:World):(eqGuard op t x y (.int k a) v).run P w=.ok () w:=lF op t x y _ v rfl w
theorem UI(op:BinOp)(t:TypeId)(x y:Operand)(a:Bool)(v:Value)(w:World):(eqGuard op t x y (.bool a) v).run P w=.ok () w:=lF op t x y _ v rfl w
theorem LD(op:BinOp)(t:TypeId)(x y:Operand)(a:ByteArray)(v:Value)(w:World):(eqGuard op t x y (.string a) v).run P w=.ok () w:=lF op t x y _ v rfl w
section ints
variable {x y:Operand}{t t':TypeId}{k:IntKind}{a b:Int}
theorem RD(ho:o.op=.binOp .add t x y t')(hx:HC L x=some (.int k a))(hy:HC L y=some (.int k b))(hR:R (.int k (k.wrap (a+b))) w):Yl P o L w R:=
 .val (fun ρ hρ=>by simp[execOp,ho,hρ x _ hx,hρ y _ hy,tD,binOp,Op.intArith]) hR
theorem TD(ho:o.op=.binOp .sub t x y t')(hx:HC L x=some (.int k a))(hy:HC L y=some (.int k b))(hR:R (.int k (k.wrap (a-b))) w):Yl P o L w R:=
 .val (fun ρ hρ=>by simp[execOp,ho,hρ x _ hx,hρ y _ hy,tD,binOp,Op.intArith]) hR
theorem wK(ho:o.op=.binOp .quo t x y t')(hx:HC L x=some (.int k a))(hy:HC L y=some (.int k b))(h0:b≠0)(hR:R (.int k (k.wrap (a.tdiv b))) w):Yl P o L w R:=
 .val (fun ρ hρ=>by simp[execOp,ho,hρ x _ hx,hρ y _ hy,tD,binOp,Op.intDiv,h0]) hR
theorem sL(ho:o.op=.binOp .rem t x y t')(hx:HC L x=some (.int k a))(hy:HC L y=some (.int k b))(h0:b≠0)(hR:R (.int k (a.tmod b)) w):Yl P o L w R:=
 .val (fun ρ hρ=>by simp[execOp,ho,hρ x _ hx,hρ y _ hy,tD,binOp,Op.intDiv,h0]) hR
theorem fI(ho:o.op=.binOp .eql t x y t')(hx:HC L x=some (.int k a))(hy:HC L y=some (.int k b))(hR:R (.bool (decide (a=b))) w):Yl P o L w R:=
 .val (fun ρ hρ=>by simp[execOp,ho,hρ x _ hx,hρ y _ hy,tD,binOp,Op.intCmp];rfl) hR
theorem SD(ho:o.op=.binOp .neq t x y t')(hx:HC L x=some (.int k a))(hy:HC L y=some (.int k b))(hR:R (.bool !(decide (a=b))) w):Yl P o L w R:=
 .val (fun ρ hρ=>by simp[execOp,ho,hρ x _ hx,hρ y _ hy,tD,binOp,Op.intCmp,bne];rfl) hR
theorem DB(ho:o.op=.binOp .lss t x y t')(hx:HC L x=some (.int k a))(hy:HC L y=some (.int k b))(hR:R (.bool (decide (a<b))) w):Yl P o L w R:=
 .val (fun ρ hρ=>by simp[execOp,ho,hρ x _ hx,hρ y _ hy,tD,binOp,Op.intCmp]) hR
theorem eH(ho:o.op=.binOp .leq t x y t')(hx:HC L x=some (.int k a))(hy:HC L y=some (.int k b))(hR:R (.bool (decide (a≤b))) w):Yl P o L w R:=
 .val (fun ρ hρ=>by simp[execOp,ho,hρ x _ hx,hρ y _ hy,tD,binOp,Op.intCmp]) hR
theorem tE(ho:o.op=.binOp .gtr t x y t')(hx:HC L x=some (.int k a))(hy:HC L y=some (.int k b))(hR:R (.bool (decide (b<a))) w):Yl P o L w R:=
 .val (fun ρ hρ=>by simp[execOp,ho,hρ x _ hx,hρ y _ hy,tD,binOp,Op.intCmp]) hR
theorem VF(ho:o.op=.binOp .geq t x y t')(hx:HC L x=some (.int k a))(hy:HC L y=some (.int k b))(hR:R (.bool (decide (b≤a))) w):Yl P o L w R:=
 .val (fun ρ hρ=>by simp[execOp,ho,hρ x _ hx,hρ y _ hy,tD,binOp,Op.intCmp]) hR
end ints
/-! ### Bools -/
theorem run_equalIn_bool{t:TypeId}(hu:P.underlying t=some .bool)(a b:Bool)(d:Nat)(w:World):(Op.equalIn (d+1) t (.bool a) (.bool b)).run P w=.ok (a==b) w:=by
 simp[Op.equalIn,run_underlying hu]
theorem zJ{x y:Operand}{t t':TypeId}{a b:Bool}(hu:P.underlying t=some .bool)(ho:o.op=.binOp .neq t x y t')(hx:HC L x=some (.bool a))(hy:HC L y=some (.bool b))(hR:R (.bool !(a==b)) w):Yl P o L w R:=
 .val (fun ρ hρ=>by
  have e:binOp .neq t (.bool a) (.bool b)=(do pure (.bool !(←Op.equalIn (9999+1) t (.bool a) (.bool b)))):=rfl
  simp only[execOp,ho,hρ x _ hx,hρ y _ hy,Sem.run_bind,UI,Result.andThen_ok,e,run_equalIn_bool hu,Sem.run_pure]) hR
/-! ### Strings: lists of bytes -/
abbrev nA:=List UInt8
def bs(l:nA):ByteArray:=⟨l.toArray⟩
theorem fE(l:nA):(bs l).size=l.length:=rfl
theorem kE(l:nA):(bs l).toList=l:=by rw[ByteArray.toList_eq];rfl
theorem DJ(l m:nA):bs l++bs m=bs (l++m):=by
 apply ByteArray.ext
 simp[bs,ByteArray.data_append]
def cJ:nA→nA→Bool:=Op.bytesLess
def QK(a b:nA):Bool:=cJ a b||a==b
section strs
variable {x y:Operand}{t t':TypeId}{a b:nA}
theorem wC(ho:o.op=.binOp .add t x y t')(hx:HC L x=some (.string (bs a)))(hy:HC L y=some (.string (bs b)))(hl:a.length+b.length≤9223372036854775807)(hR:R (.string (bs (a++b))) w):Yl P o L w R:=
 .val (fun ρ hρ=>by
  have h:¬((((bs a).size+(bs b).size:Nat):Int)>IntKind.i64.max):=by rw[fE,fE];have:IntKind.i64.max=9223372036854775807:=rfl;omega
  simp only[execOp,ho,hρ x _ hx,hρ y _ hy,Sem.run_bind,LD,Result.andThen_ok,binOp,Op.stringOp,if_neg h,DJ,Sem.run_pure]) hR
theorem iI(ho:o.op=.binOp .eql t x y t')(hx:HC L x=some (.string (bs a)))(hy:HC L y=some (.string (bs b)))(hR:R (.bool (a==b)) w):Yl P o L w R:=
 .val (fun ρ hρ=>by simp only[execOp,ho,hρ x _ hx,hρ y _ hy,Sem.run_bind,LD,Result.andThen_ok,binOp,Op.stringOp,kE,Sem.run_pure]) hR
theorem VE(ho:o.op=.binOp .neq t x y t')(hx:HC L x=some (.string (bs a)))(hy:HC L y=some (.string (bs b)))(hR:R (.bool !(a==b)) w):Yl P o L w R:=
 .val (fun ρ hρ=>by simp only[execOp,ho,hρ x _ hx,hρ y _ hy,Sem.run_bind,LD,Result.andThen_ok,binOp,Op.stringOp,kE,Sem.run_pure]) hR
theorem WK(ho:o.op=.binOp .leq t x y t')(hx:HC L x=some (.string (bs a)))(hy:HC L y=some (.string (bs b)))(hR:R (.bool (QK a b)) w):Yl P o L w R:=
 .val (fun ρ hρ=>by simp only[execOp,ho,hρ x _ hx,hρ y _ hy,Sem.run_bind,LD,Result.andThen_ok,binOp,Op.stringOp,kE,Sem.run_pure,cJ,QK]) hR
theorem VK(ho:o.op=.binOp .geq t x y t')(hx:HC L x=some (.string (bs a)))(hy:HC L y=some (.string (bs b)))(hR:R (.bool !(cJ a b)) w):Yl P o L w R:=
 .val (fun ρ hρ=>by simp only[execOp,ho,hρ x _ hx,hρ y _ hy,Sem.run_bind,LD,Result.andThen_ok,binOp,Op.stringOp,kE,Sem.run_pure,cJ]) hR
theorem NH(hu:P.underlying t=some .string){i:Int}{k:IntKind}(ho:o.op=.index t x y)(hx:HC L x=some (.string (bs a)))(hy:HC L y=some (.int k i))(h0:0≤i)(h1:i<a.length)
  (hR:R (.int .u8 (a.getD i.toNat 0).toNat) w):Yl P o L w R:=
 .val (fun ρ hρ=>by
  have hi:i.toNat<a.length:=by omega
  have hg:(bs a)[i.toNat]? = some (a.getD i.toNat 0):=by
   show(⟨a.toArray⟩:ByteArray)[i.toNat]? = _
   rw[getElem?_pos _ _ (by simpa [ByteArray.size]using hi)]
   simp[List.getD,List.getElem?_eq_getElem hi,ByteArray.getElem_eq_getElem_data]
  simp[execOp,ho,hρ x _ hx,hρ y _ hy,Instr.index,asIntOf,run_underlying hu,h0,hg]) hR
theorem xG(hu:P.underlying t=some .string){lo hi:Option Operand}{l h:Nat}{kl kh:IntKind}(ho:o.op=.slice t x lo hi none)(hx:HC L x=some (.string (bs a)))
  (hlo:match lo with | some z=>HC L z=some (.int kl (l:Int)) | none=>l=0) (hhi:match hi with | some z=>HC L z=some (.int kh (h:Int)) | none=>h=a.length) (hlh:l≤h) (hha:h≤a.length)
  (hR:R (.string (bs ((a.take h).drop l))) w):Yl P o L w R:=
 .val (fun ρ hρ=>by
  have he:(bs a).extract l h=bs ((a.take h).drop l):=by
   apply ByteArray.ext
   simp[bs,ByteArray.data_extract,List.drop_take]
  have h1:(0:Int)≤l:=by omega
  have h2:(0:Int)≤h:=by omega
  have h3:(l:Int)≤h:=by omega
  have h4:(h:Int)≤a.length:=by omega
  rcases lo with _ | z<;>rcases hi with _ | z'<;>simp only at hlo hhi
  ·subst hlo;subst hhi
   simp[execOp,ho,hρ x _ hx,Instr.sliceAt,Instr.slice,run_underlying hu,Instr.sliceBounds,fE,he]
  ·subst hlo
   simp[execOp,ho,hρ x _ hx,hρ z' _ hhi,Instr.sliceAt,Instr.slice,run_underlying hu,Instr.sliceBounds,Instr.sliceBound,asIntOf,fE,he,hha]
  ·subst hhi
   simp[execOp,ho,hρ x _ hx,hρ z _ hlo,Instr.sliceAt,Instr.slice,run_underlying hu,Instr.sliceBounds,Instr.sliceBound,asIntOf,fE,he,hlh]
  ·simp[execOp,ho,hρ x _ hx,hρ z _ hlo,hρ z' _ hhi,Instr.sliceAt,Instr.slice,run_underlying hu,Instr.sliceBounds,Instr.sliceBound,asIntOf,fE,he,hlh,hha]) hR
theorem rD(hu:P.underlying t=some .string)(ho:o.op=.call { callee:=.builtin .len,args:=#[x],argTypes:=#[t]})(hx:HC L x=some (.string (bs a)))(hR:R (.int .i64 (a.length:Int)) w):Yl P o L w R:=
 .val (fun ρ hρ=>by simp[execOp,ho,hρ x _ hx,resolve,invoke,builtin,Builtin.len_,run_underlying hu,goInt,fE]) hR
end strs
/-! ### Slices -/
theorem yL{x:Operand}{t e:TypeId}{A:Option Addr}{n c:Nat}(hu:P.underlying t=some (.slice e))(ho:o.op=.call { callee:=.builtin .len,args:=#[x],argTypes:=#[t]})(hx:HC L x=some (.slice A n c))(hR:R (.int .i64 (n:Int)) w):Yl P o L w R:=
 .val (fun ρ hρ=>by simp[execOp,ho,hρ x _ hx,resolve,invoke,builtin,Builtin.len_,run_underlying hu,goInt]) hR
theorem ND{x y:Operand}{t e:TypeId}{A:Option Addr}{n c b off sz by_:Nat}{z:Option Value}{ag:Bool}{i:Int}{k:IntKind}(hu:P.underlying t=some (.slice e))(he:KE P e=some (sz,by_,z,ag))
  (ho:o.op=.indexAddr t x y) (hx:HC L x=some (.slice A n c)) (hy:HC L y=some (.int k i)) (hA:A=some ⟨b,off,none⟩) (h0:0≤i) (h1:i<n) (hR:R (.pointer (some ⟨b,off+i.toNat*sz,none⟩)) w):Yl P o L w R:=by
 obtain⟨ie,d,hi,_,hsz,_⟩:=KE.spec he
 subst hA
 refine .val (fun ρ hρ=>?_) hR
 simp[execOp,ho,hρ x _ hx,hρ y _ hy,Instr.indexAt,asIntOf,run_underlying hu,h0,h1,sizeOf,typeInfo,hi,hsz,mE]
theorem iA{x:Operand}{t:TypeId}{k fo fz b off:Nat}{ag:Bool}(hf:oE P t k=some (fo,fz+1,ag))(ho:o.op=.fieldAddr t x k)(hx:HC L x=some (.pointer (some ⟨b,off,none⟩)))
  (hR:R (.pointer (some ⟨b,off+fo,none⟩)) w):Yl P o L w R:=by
 unfold oE at hf
 split at hf
 ·rename_i fs hu
  split at hf
  ·rename_i f hfk
   split at hf
   ·rename_i sz by_ z ag' hty
    simp only[Option.some.injEq,Prod.mk.injEq]at hf
    obtain⟨h1,h2,h3⟩:=hf
    obtain⟨ie,d,hi,_,hsz,_⟩:=KE.spec hty
    refine .val (fun ρ hρ=>?_) hR
    have hne:ie.size≠0:=by omega
    simp[execOp,ho,hρ x _ hx,Instr.fieldAt,run_underlying hu,hfk,Instr.sureAddr,fieldPlace,sizeOf,typeInfo,hi,hne,mE,h1]
   ·cases hf
  ·cases hf
 ·cases hf
theorem LH{T:TypeId}{sz by_:Nat}{z:Option Value}{ag:Bool}(h:KE P T=some (sz,by_,z,ag))(w:World):(isAgg T).run P w=.ok ag w:=by
 obtain⟨i,d,hi,hd,_,_,_,ha⟩:=KE.spec h
 unfold isAgg
 simp only[Sem.run_bind,run_underlying hd,Result.andThen_ok]
 subst ha
 cases d<;>rfl
theorem aE{T:TypeId}{sz by_:Nat}{z:Option Value}{ag:Bool}(h:KE P T=some (sz,by_,z,ag))(w:World):(sizeOf T).run P w=.ok sz w:=by
 obtain⟨i,d,hi,hd,hs,_⟩:=KE.spec h
 simp[sizeOf,typeInfo,hi,hs]
theorem QJ{T:TypeId}{sz by_:Nat}{z:Option Value}(h:KE P T=some (sz,by_,z,false)){a:Addr}{v:Value}(hc:w.cell? a=some v):(loadVar T a).run P w=.ok v w:=by
 unfold loadVar
 simp only[Sem.run_bind,LH h,Result.andThen_ok]
 simp[load,Sem.run,hc]
theorem rC{T:TypeId}{sz by_:Nat}{z:Option Value}(h:KE P T=some (sz,by_,z,true)){b off:Nat}{cs:List Value}(hl:cs.length=sz)(hc:YC w b off cs):(loadVar T ⟨b,off,none⟩).run P w=.ok (.agg cs.toArray) w:=by
 unfold loadVar
 simp only[Sem.run_bind,LH h,Result.andThen_ok,if_true,aE h]
 rw[←hl]
 have:=run_loadCells_list (P:=P) w ⟨b,off,none⟩ cs (fun j v hv=>by rw[mE];exact hc j v hv)
 simp[this]
theorem rA{x:Operand}{T:TypeId}{sz by_:Nat}{z:Option Value}{a:Addr}{v:Value}(hT:KE P T=some (sz,by_,z,false))(ho:o.op=.load T x)(hx:HC L x=some (.pointer (some a)))(hc:w.cell? a=some v)(hR:R v w):Yl P o L w R:=
 .val (fun ρ hρ=>by
  simp only[execOp,ho,hρ x _ hx,Instr.loadAt,Instr.sureAddr,pure_bind,Sem.run_bind,QJ hT hc,Result.andThen_ok,Sem.run_pure]) hR
theorem mC{x:Operand}{T:TypeId}{sz by_:Nat}{z:Option Value}{b off:Nat}{cs:List Value}(hT:KE P T=some (sz,by_,z,true))(ho:o.op=.load T x)(hx:HC L x=some (.pointer (some ⟨b,off,none⟩)))(hc:YC w b off cs)(hl:cs.length=sz)(hR:R (.agg cs.toArray) w):Yl P o L w R:=
 .val (fun ρ hρ=>by
  simp only[execOp,ho,hρ x _ hx,Instr.loadAt,Instr.sureAddr,pure_bind,Sem.run_bind,rC hT hl hc,Result.andThen_ok,Sem.run_pure]) hR
theorem wE(w:World)(cs:List Value)(T:TypeId):(w.alloc (.cells cs.toArray T)).heap.size=w.heap.size+1∧eD (w.alloc (.cells cs.toArray T)) w.heap.size T cs∧Ex w (w.alloc (.cells cs.toArray T)):=
 ⟨Array.size_push ..,by show(w.heap.push _)[w.heap.size]? = _;simp,(Below.refl _ _).alloc (Nat.le_refl _) _⟩
theorem sE{x:Operand}{T:TypeId}{v:Value}{cs:List Value}(ho:o.op=.box T x)(hx:HC L x=some v)(hc:v.cells=cs.toArray)
  (hR:∀b w',w.heap.size=b→w'.heap.size=b+1→eD w' b T cs→Ex w w'→R (.pointer (some ⟨b,0,none⟩)) w'):Yl P o L w R:=fun ρ hρ=>by
 obtain⟨h1,h2,h3⟩:=wE w cs T
 have e:(execOp ρ o).run P w=.ok (.value (.pointer (some ⟨w.heap.size,0,none⟩))) (w.alloc (.cells cs.toArray T)):=by
  simp[execOp,ho,hρ x _ hx,Instr.box,newVar,newRow,hc]
 unfold CH
 rw[e]
 exact hR _ _ rfl h1 h2 h3
theorem HI{T:TypeId}{sz by_:Nat}{z:Value}{ag:Bool}(h:KE P T=some (sz,by_,some z,ag))(w:World):(zeroValue T).run P w=.ok z w:=by
 obtain⟨i,d,hi,hd,_,_,hz,_⟩:=KE.spec h
 simp[zeroValue,typeInfo,hi,hz]
theorem yB{T:TypeId}{sz by_:Nat}{z:Value}{ag:Bool}{cs:List Value}(hT:KE P T=some (sz,by_,some z,ag))(ho:o.op=.alloc T)(hc:z.cells=cs.toArray)
  (hR:∀b w',w.heap.size=b→w'.heap.size=b+1→eD w' b T cs→Ex w w'→R (.pointer (some ⟨b,0,none⟩)) w'):Yl P o L w R:=fun ρ hρ=>by
 obtain⟨h1,h2,h3⟩:=wE w cs T
 have e:(execOp ρ o).run P w=.ok (.value (.pointer (some ⟨w.heap.size,0,none⟩))) (w.alloc (.cells cs.toArray T)):=by
  simp[execOp,ho,Instr.alloc,HI hT,newVar,newRow,hc]
 unfold CH
 rw[e]
 exact hR _ _ rfl h1 h2 h3
def tC(cs:List Value)(off:Nat)(vs:List Value):List Value:=cs.take off++vs++cs.drop (off+vs.length)
theorem CE{cs vs:List Value}{off:Nat}(h:off+vs.length≤cs.length):(tC cs off vs).length=cs.length:=by
 simp[tC];omega
theorem JI(w:World)(b:Nat)(cs:Array Value):bF b w (w.setRow b cs):=
 ⟨rfl,rfl,rfl,by simp[World.setRow],fun k hk=>by simp[World.setRow,Array.getElem?_modify,Ne.symm hk]⟩
theorem ME{x y:Operand}{T T0:TypeId}{sz by_ b off:Nat}{z:Option Value}{ag:Bool}{v:Value}{vs cs:List Value}(hT:KE P T=some (sz,by_,z,ag))(ho:o.op=.store T x y)(hx:HC L x=some (.pointer (some ⟨b,off,none⟩)))
  (hy:HC L y=some v) (hc:v.cells=vs.toArray) (hl:vs.length=sz) (h1:vs.all Value.oneCell'=true) (hB:eD w b T0 cs) (hoff:off+sz≤cs.length)
  (hR:∀w',eD w' b T0 (tC cs off vs)→bF b w w'→R undef w'):Yl P o L w R:=fun ρ hρ=>by
 have h1':∀u∈vs,u.oneCell'=true:=by simpa using h1
 have hst:=run_storeCells_at (P:=P) b off T0 vs 0 cs.toArray w hB (by simp;omega) h1'
 have e:(execOp ρ o).run P w=.ok .skip (w.setRow b (tC cs off vs).toArray):=by
  simp only[execOp,ho,hρ x _ hx,hρ y _ hy,Instr.storeAt,Instr.sureAddr,pure_bind,storeVar,Sem.run_bind,aE hT,Result.andThen_ok,hc]
  have:¬(vs.toArray.size≠sz):=by simp[hl]
  simp only[if_neg this]
  simp only[Nat.add_zero]at hst
  rw[hst]
  rfl
 unfold CH
 rw[e]
 refine hR _ ?_ (JI _ _ _)
 unfold eD
 exact setRow_heap w b cs.toArray (tC cs off vs).toArray T0 _ hB
end
end Go.X
