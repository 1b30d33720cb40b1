/- Operations, one lemma each; what memory holds. -/
import Derived.Test.YtikkoidgamlgnaaE1
import Derived.Laws.CopyRow
import Derived.Laws.Tables
import Derived.Laws.NewBlocks
import Derived.Laws.MakeOwn
import Derived.Laws.IdiomCopy
import Derived.IntWalk
import Derived.Laws.Closers25
set_option linter.unusedVariables false
set_option linter.unusedSimpArgs false
namespace Go.X
open Go.RowKit
/-! ### Worlds -/
def Ex(w w':World):Prop:=Below w.heap.size w w'
theorem Ex.refl(w:World):Ex w w:=Below.refl _ _
theorem Ex.size{w w':World}(h:Ex w w'):w.heap.size≤w'.heap.size:=Below.size h
theorem Ex.trans{a b c:World}(h:Ex a b)(k:Ex b c):Ex a c:=Below.trans h (Below.mono k (Below.size h))
theorem Ex.drew(w:World):Ex w w.drew:=Below.drew (Below.refl _ _)
theorem Below.ex{B:Nat}{a b c:World}(h:Below B a b)(k:Ex b c)(hB:B≤b.heap.size):Below B a c:=h.trans (Below.mono k hB)
structure WG (b:Nat) (w w':World):Prop where
 os:w'.os=w.os
 tape:w'.tape=w.tape
 output:w'.output=w.output
 size:w'.heap.size=w.heap.size
 block:∀k,k≠b→w'.heap[k]? = w.heap[k]?
theorem Below.only{B b:Nat}{a w w':World}(h:Below B a w)(k:WG b w w')(hb:B≤b):Below B a w':=
 ⟨k.os.trans h.os,k.tape.trans h.tape,k.output.trans h.output,by rw[k.size];exact h.size,fun i hi=>(k.block i (by omega)).trans (h.block i hi)⟩
def TD(w:World)(b:Nat)(T:TypeId)(cs:List Value):Prop:=w.heap[b]? = some (.cells cs.toArray T (0,0))
theorem TD.lt{w:World}{b:Nat}{T:TypeId}{cs:List Value}(h:TD w b T cs):b<w.heap.size:=by
 rcases Nat.lt_or_ge b w.heap.size with hlt | hge
 ·exact hlt
 ·unfold TD at h;rw[Array.getElem?_eq_none hge]at h;cases h
theorem TD.ex{w w':World}{b:Nat}{T:TypeId}{cs:List Value}(h:TD w b T cs)(e:Ex w w'):TD w' b T cs:=(Below.block e b h.lt).trans h
theorem TD.only{w w':World}{b b':Nat}{T:TypeId}{cs:List Value}(h:TD w b T cs)(e:WG b' w w')(hn:b≠b'):TD w' b T cs:=(e.block b hn).trans h
theorem TD.cell{w:World}{b:Nat}{T:TypeId}{cs:List Value}(h:TD w b T cs)(i:Nat):w.cell? ⟨b,i,none⟩=cs[i]? := by
 unfold TD at h
 simp[World.cell?,h]
theorem TD.frozen{w:World}{b:Nat}{T:TypeId}{cs:List Value}(h:TD w b T cs)(i:Nat):w.frozen? ⟨b,i,none⟩=false:=by
 unfold TD at h
 simp[World.frozen?,h]
def NE(w:World)(b o:Nat)(cs:List Value):Prop:=∀j u,cs[j]? = some u→w.cell? ⟨b,o+j,none⟩=some u
theorem TD.cells{w:World}{b:Nat}{T:TypeId}{cs:List Value}(h:TD w b T cs){o n:Nat}{sub:List Value}(hs:(cs.drop o).take n=sub):NE w b o sub:=by
 intro j u hu
 subst hs
 rw[h.cell]
 rw[List.getElem?_take]at hu
 split at hu
 ·rwa[List.getElem?_drop]at hu
 ·cases hu
theorem NE.block_lt{w:World}{b o:Nat}{cs:List Value}(h:NE w b o cs)(hl:0<cs.length):b<w.heap.size:=by
 have:=h 0 _ (List.getElem?_eq_getElem hl)
 rcases Nat.lt_or_ge b w.heap.size with hlt | hge
 ·exact hlt
 ·simp[World.cell?,Array.getElem?_eq_none hge]at this
theorem NE.keep{w w':World}{b o:Nat}{cs:List Value}(h:NE w b o cs)(hk:w'.heap[b]? = w.heap[b]?):NE w' b o cs:=by
 intro j u hu
 have:=h j u hu
 simpa [World.cell?,hk]using this
theorem NE.ex{w w':World}{b o:Nat}{cs:List Value}(h:NE w b o cs)(e:Ex w w'):NE w' b o cs:=by
 rcases Nat.eq_zero_or_pos cs.length with h0 | h0
 ·intro j u hu;rw[List.eq_nil_of_length_eq_zero h0]at hu;simp at hu
 ·exact h.keep (Below.block e b (h.block_lt h0))
theorem NE.only{w w':World}{b b' o:Nat}{cs:List Value}(h:NE w b o cs)(e:WG b' w w')(hn:b≠b'):NE w' b o cs:=h.keep (e.block b hn)
theorem CG(b o k:Nat):(⟨b,o,none⟩:Addr).add k=⟨b,o+k,none⟩:=by
 unfold Addr.add;split<;>simp_all
/-! ### Types -/
def XO:TypeDesc→Bool
 | .struct _ | .array _ _=>true
 | _=>false
def xG(P:Program)(T:TypeId):Option (Nat×Nat×Option Value×Bool):=
 match P.info? T,P.underlying T with
 | some i,some d=>some (i.size,i.bytes,i.zero,XO d)
 | _,_=>none
theorem xG.spec{P:Program}{T:TypeId}{sz bytes:Nat}{z:Option Value}{ag:Bool}(h:xG P T=some (sz,bytes,z,ag)) :
  ∃i d,P.info? T=some i∧P.underlying T=some d∧i.size=sz∧i.bytes=bytes∧i.zero=z∧XO d=ag:=by
 unfold xG at h
 cases hi:P.info? T with
 | none=>simp[hi]at h
 | some i=>
  cases hd:P.underlying T with
  | none=>simp[hi,hd]at h
  | some d=>
   simp only[hi,hd,Option.some.injEq,Prod.mk.injEq]at h
   exact⟨i,d,rfl,rfl,h.1,h.2.1,h.2.2.1,h.2.2.2⟩
def JE(P:Program)(T:TypeId)(k:Nat):Option (Nat×Nat×Bool):=
 match P.underlying T with
 | some (.struct fs)=>match fs[k]? with
  | some f=>match xG P f.type with
   | some (sz,_,_,ag)=>some (f.offset,sz,ag)
   | none=>none
  | none=>none
 | _=>none
section
variable {P:Program}{o:Oper}{L:List (Nat×Value)}{w:World}{R:Value→World→Prop}
theorem Yl.val{v:Value}(h:∀ρ,YN L ρ→(execOp ρ o).run P w=.ok (.value v) w)(hR:R v w):Yl P o L w R:=fun ρ hρ=>by
 unfold wJ;rw[h ρ hρ];exact hR
theorem yM{x:Operand}{v:Value}(ho:o.op=.move x)(hx:xD L x=some v)(hR:R v w):Yl P o L w R:=
 .val (v:=v) (fun ρ hρ=>by simp[execOp,ho,hρ x v hx]) hR
theorem yA{x:Operand}{v:Value}(ho:o.op=.assign x)(hx:xD L x=some v)(hR:R v w):Yl P o L w R:=
 .val (v:=v) (fun ρ hρ=>by simp[execOp,ho,hρ x v hx]) hR
theorem PA{c x y:Operand}{g:Bool}{v:Value}(ho:o.op=.pick c x y)(hc:xD L c=some (.bool g))(hg:g=true)(hx:xD L x=some v)(hR:R v w):Yl P o L w R:=
 .val (v:=v) (fun ρ hρ=>by simp[execOp,ho,hρ x v hx,hρ c _ hc,asBool,hg]) hR
theorem IA{c x y:Operand}{g:Bool}{v:Value}(ho:o.op=.pick c x y)(hc:xD L c=some (.bool g))(hg:g=false)(hx:xD L y=some v)(hR:R v w):Yl P o L w R:=
 .val (v:=v) (fun ρ hρ=>by simp[execOp,ho,hρ y v hx,hρ c _ hc,asBool,hg]) hR
theorem ZC{x:Operand}{i:Nat}{vs:Array Value}{v:Value}(ho:o.op=.extract x i)(hx:xD L x=some (.tuple vs))(hv:vs[i]? = some v)(hR:R v w):Yl P o L w R:=
 .val (v:=v) (fun ρ hρ=>by simp[execOp,ho,hρ x _ hx,Instr.extract,hv]) hR
theorem RC{x:Operand}{t:TypeId}{g:Bool}(ho:o.op=.unOp .not t x)(hx:xD L x=some (.bool g))(hR:R (.bool !g) w):Yl P o L w R:=
 .val (v:=.bool !g) (fun ρ hρ=>by simp[execOp,ho,hρ x _ hx,Op.unary]) hR
def JN:Value→Bool
 | .agg _ | .nilIface=>false
 | _=>true
theorem EH(op:BinOp)(t:TypeId)(x y:Operand)(u v:Value)(hu:JN u=true)(w:World):(eqGuard op t x y u v).run P w=.ok () w:=by
 unfold eqGuard
 cases op<;>cases u<;>first | rfl | (simp[JN]at hu)
theorem iE(op:BinOp)(t:TypeId)(x y:Operand)(k:IntKind)(a:Int)(v:Value)(w:World):(eqGuard op t x y (.int k a) v).run P w=.ok () w:=EH op t x y _ v rfl w
theorem ML(op:BinOp)(t:TypeId)(x y:Operand)(a:Bool)(v:Value)(w:World):(eqGuard op t x y (.bool a) v).run P w=.ok () w:=EH op t x y _ v rfl w
theorem wF(op:BinOp)(t:TypeId)(x y:Operand)(a:ByteArray)(v:Value)(w:World):(eqGuard op t x y (.string a) v).run P w=.ok () w:=EH op t x y _ v rfl w
section ints
variable {x y:Operand}{t t':TypeId}{k:IntKind}{a b:Int}
theorem WE(ho:o.op=.binOp .add t x y t')(hx:xD L x=some (.int k a))(hy:xD L y=some (.int k b))(hR:R (.int k (k.wrap (a+b))) w):Yl P o L w R:=
 .val (fun ρ hρ=>by simp[execOp,ho,hρ x _ hx,hρ y _ hy,iE,binOp,Op.intArith]) hR
theorem lF(ho:o.op=.binOp .sub t x y t')(hx:xD L x=some (.int k a))(hy:xD L y=some (.int k b))(hR:R (.int k (k.wrap (a-b))) w):Yl P o L w R:=
 .val (fun ρ hρ=>by simp[execOp,ho,hρ x _ hx,hρ y _ hy,iE,binOp,Op.intArith]) hR
theorem JH(ho:o.op=.binOp .mul t x y t')(hx:xD L x=some (.int k a))(hy:xD L y=some (.int k b))(hR:R (.int k (k.wrap (a*b))) w):Yl P o L w R:=
 .val (fun ρ hρ=>by simp[execOp,ho,hρ x _ hx,hρ y _ hy,iE,binOp,Op.intArith]) hR
theorem MK(ho:o.op=.binOp .quo t x y t')(hx:xD L x=some (.int k a))(hy:xD L y=some (.int k b))(h0:b≠0)(hR:R (.int k (k.wrap (a.tdiv b))) w):Yl P o L w R:=
 .val (fun ρ hρ=>by simp[execOp,ho,hρ x _ hx,hρ y _ hy,iE,binOp,Op.intDiv,h0]) hR
theorem sG(ho:o.op=.binOp .rem t x y t')(hx:xD L x=some (.int k a))(hy:xD L y=some (.int k b))(h0:b≠0)(hR:R (.int k (a.tmod b)) w):Yl P o L w R:=
 .val (fun ρ hρ=>by simp[execOp,ho,hρ x _ hx,hρ y _ hy,iE,binOp,Op.intDiv,h0]) hR
theorem HG(ho:o.op=.binOp .eql t x y t')(hx:xD L x=some (.int k a))(hy:xD L y=some (.int k b))(hR:R (.bool (decide (a=b))) w):Yl P o L w R:=
 .val (fun ρ hρ=>by simp[execOp,ho,hρ x _ hx,hρ y _ hy,iE,binOp,Op.intCmp];rfl) hR
theorem mP(ho:o.op=.binOp .neq t x y t')(hx:xD L x=some (.int k a))(hy:xD L y=some (.int k b))(hR:R (.bool !(decide (a=b))) w):Yl P o L w R:=
 .val (fun ρ hρ=>by simp[execOp,ho,hρ x _ hx,hρ y _ hy,iE,binOp,Op.intCmp,bne];rfl) hR
theorem XB(ho:o.op=.binOp .lss t x y t')(hx:xD L x=some (.int k a))(hy:xD L y=some (.int k b))(hR:R (.bool (decide (a<b))) w):Yl P o L w R:=
 .val (fun ρ hρ=>by simp[execOp,ho,hρ x _ hx,hρ y _ hy,iE,binOp,Op.intCmp]) hR
theorem uF(ho:o.op=.binOp .leq t x y t')(hx:xD L x=some (.int k a))(hy:xD L y=some (.int k b))(hR:R (.bool (decide (a≤b))) w):Yl P o L w R:=
 .val (fun ρ hρ=>by simp[execOp,ho,hρ x _ hx,hρ y _ hy,iE,binOp,Op.intCmp]) hR
theorem ME(ho:o.op=.binOp .gtr t x y t')(hx:xD L x=some (.int k a))(hy:xD L y=some (.int k b))(hR:R (.bool (decide (b<a))) w):Yl P o L w R:=
 .val (fun ρ hρ=>by simp[execOp,ho,hρ x _ hx,hρ y _ hy,iE,binOp,Op.intCmp]) hR
theorem dG(ho:o.op=.binOp .geq t x y t')(hx:xD L x=some (.int k a))(hy:xD L y=some (.int k b))(hR:R (.bool (decide (b≤a))) w):Yl P o L w R:=
 .val (fun ρ hρ=>by simp[execOp,ho,hρ x _ hx,hρ y _ hy,iE,binOp,Op.intCmp]) hR
end ints
/-! ### Bools -/
theorem run_equalIn_bool{t:TypeId}(hu:P.underlying t=some .bool)(a b:Bool)(d:Nat)(w:World):(Op.equalIn (d+1) t (.bool a) (.bool b)).run P w=.ok (a==b) w:=by
 simp[Op.equalIn,run_underlying hu]
theorem FO{x y:Operand}{t t':TypeId}{a b:Bool}(hu:P.underlying t=some .bool)(ho:o.op=.binOp .neq t x y t')(hx:xD L x=some (.bool a))(hy:xD L y=some (.bool b))(hR:R (.bool !(a==b)) w):Yl P o L w R:=
 .val (fun ρ hρ=>by
  have e:binOp .neq t (.bool a) (.bool b)=(do pure (.bool !(←Op.equalIn (9999+1) t (.bool a) (.bool b)))):=rfl
  simp only[execOp,ho,hρ x _ hx,hρ y _ hy,Sem.run_bind,ML,Result.andThen_ok,e,run_equalIn_bool hu,Sem.run_pure]) hR
/-! ### Strings: lists of bytes -/
abbrev YA:=List UInt8
def bs(l:YA):ByteArray:=⟨l.toArray⟩
theorem LG(l:YA):(bs l).size=l.length:=rfl
theorem zG(l:YA):(bs l).toList=l:=by rw[ByteArray.toList_eq];rfl
theorem uM(l m:YA):bs l++bs m=bs (l++m):=by
 apply ByteArray.ext
 simp[bs,ByteArray.data_append]
def PJ:YA→YA→Bool:=Op.bytesLess
def UM(a b:YA):Bool:=PJ a b||a==b
section strs
variable {x y:Operand}{t t':TypeId}{a b:YA}
theorem iG(ho:o.op=.binOp .add t x y t')(hx:xD L x=some (.string (bs a)))(hy:xD L y=some (.string (bs b)))(hl:a.length+b.length≤9223372036854775807)(hR:R (.string (bs (a++b))) w):Yl P o L w R:=
 .val (fun ρ hρ=>by
  have h:¬((((bs a).size+(bs b).size:Nat):Int)>IntKind.i64.max):=by rw[LG,LG];have:IntKind.i64.max=9223372036854775807:=rfl;omega
  simp only[execOp,ho,hρ x _ hx,hρ y _ hy,Sem.run_bind,wF,Result.andThen_ok,binOp,Op.stringOp,if_neg h,uM,Sem.run_pure]) hR
theorem NK(ho:o.op=.binOp .eql t x y t')(hx:xD L x=some (.string (bs a)))(hy:xD L y=some (.string (bs b)))(hR:R (.bool (a==b)) w):Yl P o L w R:=
 .val (fun ρ hρ=>by simp only[execOp,ho,hρ x _ hx,hρ y _ hy,Sem.run_bind,wF,Result.andThen_ok,binOp,Op.stringOp,zG,Sem.run_pure]) hR
theorem II(ho:o.op=.binOp .neq t x y t')(hx:xD L x=some (.string (bs a)))(hy:xD L y=some (.string (bs b)))(hR:R (.bool !(a==b)) w):Yl P o L w R:=
 .val (fun ρ hρ=>by simp only[execOp,ho,hρ x _ hx,hρ y _ hy,Sem.run_bind,wF,Result.andThen_ok,binOp,Op.stringOp,zG,Sem.run_pure]) hR
theorem JO(ho:o.op=.binOp .leq t x y t')(hx:xD L x=some (.string (bs a)))(hy:xD L y=some (.string (bs b)))(hR:R (.bool (UM a b)) w):Yl P o L w R:=
 .val (fun ρ hρ=>by simp only[execOp,ho,hρ x _ hx,hρ y _ hy,Sem.run_bind,wF,Result.andThen_ok,binOp,Op.stringOp,zG,Sem.run_pure,PJ,UM]) hR
theorem HO(ho:o.op=.binOp .gtr t x y t')(hx:xD L x=some (.string (bs a)))(hy:xD L y=some (.string (bs b)))(hR:R (.bool !(UM a b)) w):Yl P o L w R:=
 .val (fun ρ hρ=>by simp only[execOp,ho,hρ x _ hx,hρ y _ hy,Sem.run_bind,wF,Result.andThen_ok,binOp,Op.stringOp,zG,Sem.run_pure,PJ,UM]) hR
theorem rM(ho:o.op=.binOp .geq t x y t')(hx:xD L x=some (.string (bs a)))(hy:xD L y=some (.string (bs b)))(hR:R (.bool !(PJ a b)) w):Yl P o L w R:=
 .val (fun ρ hρ=>by simp only[execOp,ho,hρ x _ hx,hρ y _ hy,Sem.run_bind,wF,Result.andThen_ok,binOp,Op.stringOp,zG,Sem.run_pure,PJ]) hR
theorem aN(hu:P.underlying t=some .string){i:Int}{k:IntKind}(ho:o.op=.index t x y)(hx:xD L x=some (.string (bs a)))(hy:xD L y=some (.int k i))(h0:0≤i)(h1:i<a.length)
  (hR:R (.int .u8 (a.getD i.toNat 0).toNat) w):Yl P o L w R:=
 .val (fun ρ hρ=>by
  have hi:i.toNat<a.length:=by omega
  have hg:(bs a)[i.toNat]? = some (a.getD i.toNat 0):=by
   show(⟨a.toArray⟩:ByteArray)[i.toNat]? = _
   rw[getElem?_pos _ _ (by simpa [ByteArray.size]using hi)]
   simp[List.getD,List.getElem?_eq_getElem hi,ByteArray.getElem_eq_getElem_data]
  simp[execOp,ho,hρ x _ hx,hρ y _ hy,Instr.index,asIntOf,run_underlying hu,h0,hg]) hR
theorem zK(hu:P.underlying t=some .string){lo hi:Option Operand}{l h:Nat}{kl kh:IntKind}(ho:o.op=.slice t x lo hi none)(hx:xD L x=some (.string (bs a)))
  (hlo:match lo with | some z=>xD L z=some (.int kl (l:Int)) | none=>l=0) (hhi:match hi with | some z=>xD L z=some (.int kh (h:Int)) | none=>h=a.length) (hlh:l≤h) (hha:h≤a.length)
  (hR:R (.string (bs ((a.take h).drop l))) w):Yl P o L w R:=
 .val (fun ρ hρ=>by
  have he:(bs a).extract l h=bs ((a.take h).drop l):=by
   apply ByteArray.ext
   simp[bs,ByteArray.data_extract,List.drop_take]
  have h1:(0:Int)≤l:=by omega
  have h2:(0:Int)≤h:=by omega
  have h3:(l:Int)≤h:=by omega
  have h4:(h:Int)≤a.length:=by omega
  rcases lo with _ | z<;>rcases hi with _ | z'<;>simp only at hlo hhi
  ·subst hlo;subst hhi
   simp[execOp,ho,hρ x _ hx,Instr.sliceAt,Instr.slice,run_underlying hu,Instr.sliceBounds,LG,he]
  ·subst hlo
   simp[execOp,ho,hρ x _ hx,hρ z' _ hhi,Instr.sliceAt,Instr.slice,run_underlying hu,Instr.sliceBounds,Instr.sliceBound,asIntOf,LG,he,hha]
  ·subst hhi
   simp[execOp,ho,hρ x _ hx,hρ z _ hlo,Instr.sliceAt,Instr.slice,run_underlying hu,Instr.sliceBounds,Instr.sliceBound,asIntOf,LG,he,hlh]
  ·simp[execOp,ho,hρ x _ hx,hρ z _ hlo,hρ z' _ hhi,Instr.sliceAt,Instr.slice,run_underlying hu,Instr.sliceBounds,Instr.sliceBound,asIntOf,LG,he,hlh,hha]) hR
theorem qD(hu:P.underlying t=some .string)(ho:o.op=.call { callee:=.builtin .len,args:=#[x],argTypes:=#[t]})(hx:xD L x=some (.string (bs a)))(hR:R (.int .i64 (a.length:Int)) w):Yl P o L w R:=
 .val (fun ρ hρ=>by simp[execOp,ho,hρ x _ hx,resolve,invoke,builtin,Builtin.len_,run_underlying hu,goInt,LG]) hR
end strs
/-! ### Slices -/
theorem yL{x:Operand}{t e:TypeId}{A:Option Addr}{n c:Nat}(hu:P.underlying t=some (.slice e))(ho:o.op=.call { callee:=.builtin .len,args:=#[x],argTypes:=#[t]})(hx:xD L x=some (.slice A n c))(hR:R (.int .i64 (n:Int)) w):Yl P o L w R:=
 .val (fun ρ hρ=>by simp[execOp,ho,hρ x _ hx,resolve,invoke,builtin,Builtin.len_,run_underlying hu,goInt]) hR
theorem rC{x y:Operand}{t e:TypeId}{A:Option Addr}{n c b off sz by_:Nat}{z:Option Value}{ag:Bool}{i:Int}{k:IntKind}(hu:P.underlying t=some (.slice e))(he:xG P e=some (sz,by_,z,ag))
  (ho:o.op=.indexAddr t x y) (hx:xD L x=some (.slice A n c)) (hy:xD L y=some (.int k i)) (hA:A=some ⟨b,off,none⟩) (h0:0≤i) (h1:i<n) (hR:R (.pointer (some ⟨b,off+i.toNat*sz,none⟩)) w):Yl P o L w R:=by
 obtain⟨ie,d,hi,_,hsz,_⟩:=xG.spec he
 subst hA
 refine .val (fun ρ hρ=>?_) hR
 simp[execOp,ho,hρ x _ hx,hρ y _ hy,Instr.indexAt,asIntOf,run_underlying hu,h0,h1,sizeOf,typeInfo,hi,hsz,CG]
theorem fA{x:Operand}{t:TypeId}{k fo fz b off:Nat}{ag:Bool}(hf:JE P t k=some (fo,fz+1,ag))(ho:o.op=.fieldAddr t x k)(hx:xD L x=some (.pointer (some ⟨b,off,none⟩)))
  (hR:R (.pointer (some ⟨b,off+fo,none⟩)) w):Yl P o L w R:=by
 unfold JE at hf
 split at hf
 ·rename_i fs hu
  split at hf
  ·rename_i f hfk
   split at hf
   ·rename_i sz by_ z ag' hty
    simp only[Option.some.injEq,Prod.mk.injEq]at hf
    obtain⟨h1,h2,h3⟩:=hf
    obtain⟨ie,d,hi,_,hsz,_⟩:=xG.spec hty
    refine .val (fun ρ hρ=>?_) hR
    have hne:ie.size≠0:=by omega
    simp[execOp,ho,hρ x _ hx,Instr.fieldAt,run_underlying hu,hfk,Instr.sureAddr,fieldPlace,sizeOf,typeInfo,hi,hne,CG,h1]
   ·cases hf
  ·cases hf
 ·cases hf
theorem xK{T:TypeId}{sz by_:Nat}{z:Option Value}{ag:Bool}(h:xG P T=some (sz,by_,z,ag))(w:World):(isAgg T).run P w=.ok ag w:=by
 obtain⟨i,d,hi,hd,_,_,_,ha⟩:=xG.spec h
 unfold isAgg
 simp only[Sem.run_bind,run_underlying hd,Result.andThen_ok]
 subst ha
 cases d<;>rfl
theorem VF{T:TypeId}{sz by_:Nat}{z:Option Value}{ag:Bool}(h:xG P T=some (sz,by_,z,ag))(w:World):(sizeOf T).run P w=.ok sz w:=by
 obtain⟨i,d,hi,hd,hs,_⟩:=xG.spec h
 simp[sizeOf,typeInfo,hi,hs]
theorem TM{T:TypeId}{sz by_:Nat}{z:Option Value}(h:xG P T=some (sz,by_,z,false)){a:Addr}{v:Value}(hc:w.cell? a=some v):(loadVar T a).run P w=.ok v w:=by
 unfold loadVar
 simp only[Sem.run_bind,xK h,Result.andThen_ok]
 simp[load,Sem.run,hc]
theorem zD{T:TypeId}{sz by_:Nat}{z:Option Value}(h:xG P T=some (sz,by_,z,true)){b off:Nat}{cs:List Value}(hl:cs.length=sz)(hc:NE w b off cs):(loadVar T ⟨b,off,none⟩).run P w=.ok (.agg cs.toArray) w:=by
 unfold loadVar
 simp only[Sem.run_bind,xK h,Result.andThen_ok,if_true,VF h]
 rw[←hl]
 have:=run_loadCells_list (P:=P) w ⟨b,off,none⟩ cs (fun j v hv=>by rw[CG];exact hc j v hv)
 simp[this]
theorem uA{x:Operand}{T:TypeId}{sz by_:Nat}{z:Option Value}{a:Addr}{v:Value}(hT:xG P T=some (sz,by_,z,false))(ho:o.op=.load T x)(hx:xD L x=some (.pointer (some a)))(hc:w.cell? a=some v)(hR:R v w):Yl P o L w R:=
 .val (fun ρ hρ=>by
  simp only[execOp,ho,hρ x _ hx,Instr.loadAt,Instr.sureAddr,pure_bind,Sem.run_bind,TM hT hc,Result.andThen_ok,Sem.run_pure]) hR
theorem bC{x:Operand}{T:TypeId}{sz by_:Nat}{z:Option Value}{b off:Nat}{cs:List Value}(hT:xG P T=some (sz,by_,z,true))(ho:o.op=.load T x)(hx:xD L x=some (.pointer (some ⟨b,off,none⟩)))(hc:NE w b off cs)(hl:cs.length=sz)(hR:R (.agg cs.toArray) w):Yl P o L w R:=
 .val (fun ρ hρ=>by
  simp only[execOp,ho,hρ x _ hx,Instr.loadAt,Instr.sureAddr,pure_bind,Sem.run_bind,zD hT hl hc,Result.andThen_ok,Sem.run_pure]) hR
theorem wH(w:World)(cs:List Value)(T:TypeId):(w.alloc (.cells cs.toArray T)).heap.size=w.heap.size+1∧TD (w.alloc (.cells cs.toArray T)) w.heap.size T cs∧Ex w (w.alloc (.cells cs.toArray T)):=
 ⟨Array.size_push ..,by show(w.heap.push _)[w.heap.size]? = _;simp,(Below.refl _ _).alloc (Nat.le_refl _) _⟩
theorem cG{x:Operand}{T:TypeId}{v:Value}{cs:List Value}(ho:o.op=.box T x)(hx:xD L x=some v)(hc:v.cells=cs.toArray)
  (hR:∀b w',w.heap.size=b→w'.heap.size=b+1→TD w' b T cs→Ex w w'→R (.pointer (some ⟨b,0,none⟩)) w'):Yl P o L w R:=fun ρ hρ=>by
 obtain⟨h1,h2,h3⟩:=wH w cs T
 have e:(execOp ρ o).run P w=.ok (.value (.pointer (some ⟨w.heap.size,0,none⟩))) (w.alloc (.cells cs.toArray T)):=by
  simp[execOp,ho,hρ x _ hx,Instr.box,newVar,newRow,hc]
 unfold wJ
 rw[e]
 exact hR _ _ rfl h1 h2 h3
theorem qL{T:TypeId}{sz by_:Nat}{z:Value}{ag:Bool}(h:xG P T=some (sz,by_,some z,ag))(w:World):(zeroValue T).run P w=.ok z w:=by
 obtain⟨i,d,hi,hd,_,_,hz,_⟩:=xG.spec h
 simp[zeroValue,typeInfo,hi,hz]
theorem yB{T:TypeId}{sz by_:Nat}{z:Value}{ag:Bool}{cs:List Value}(hT:xG P T=some (sz,by_,some z,ag))(ho:o.op=.alloc T)(hc:z.cells=cs.toArray)
  (hR:∀b w',w.heap.size=b→w'.heap.size=b+1→TD w' b T cs→Ex w w'→R (.pointer (some ⟨b,0,none⟩)) w'):Yl P o L w R:=fun ρ hρ=>by
 obtain⟨h1,h2,h3⟩:=wH w cs T
 have e:(execOp ρ o).run P w=.ok (.value (.pointer (some ⟨w.heap.size,0,none⟩))) (w.alloc (.cells cs.toArray T)):=by
  simp[execOp,ho,Instr.alloc,qL hT,newVar,newRow,hc]
 unfold wJ
 rw[e]
 exact hR _ _ rfl h1 h2 h3
def KD(cs:List Value)(off:Nat)(vs:List Value):List Value:=cs.take off++vs++cs.drop (off+vs.length)
theorem UG{cs vs:List Value}{off:Nat}(h:off+vs.length≤cs.length):(KD cs off vs).length=cs.length:=by
 simp[KD];omega
theorem hJ(w:World)(b:Nat)(cs:Array Value):WG b w (w.setRow b cs):=
 ⟨rfl,rfl,rfl,by simp[World.setRow],fun k hk=>by simp[World.setRow,Array.getElem?_modify,Ne.symm hk]⟩
theorem vF{x y:Operand}{T T0:TypeId}{sz by_ b off:Nat}{z:Option Value}{ag:Bool}{v:Value}{vs cs:List Value}(hT:xG P T=some (sz,by_,z,ag))(ho:o.op=.store T x y)(hx:xD L x=some (.pointer (some ⟨b,off,none⟩)))
  (hy:xD L y=some v) (hc:v.cells=vs.toArray) (hl:vs.length=sz) (h1:vs.all Value.oneCell'=true) (hB:TD w b T0 cs) (hoff:off+sz≤cs.length)
  (hR:∀w',TD w' b T0 (KD cs off vs)→WG b w w'→R undef w'):Yl P o L w R:=fun ρ hρ=>by
 have h1':∀u∈vs,u.oneCell'=true:=by simpa using h1
 have hst:=run_storeCells_at (P:=P) b off T0 vs 0 cs.toArray w hB (by simp;omega) h1'
 have e:(execOp ρ o).run P w=.ok .skip (w.setRow b (KD cs off vs).toArray):=by
  simp only[execOp,ho,hρ x _ hx,hρ y _ hy,Instr.storeAt,Instr.sureAddr,pure_bind,storeVar,Sem.run_bind,VF hT,Result.andThen_ok,hc]
  have:¬(vs.toArray.size≠sz):=by simp[hl]
  simp only[if_neg this]
  simp only[Nat.add_zero]at hst
  rw[hst]
  rfl
 unfold wJ
 rw[e]
 refine hR _ ?_ (hJ _ _ _)
 unfold TD
 exact setRow_heap w b cs.toArray (KD cs off vs).toArray T0 _ hB
end
end Go.X
