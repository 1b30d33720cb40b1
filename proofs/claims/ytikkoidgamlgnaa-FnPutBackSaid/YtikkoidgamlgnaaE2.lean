/- Operations, one lemma each; what memory holds. -/
import Derived.Test.YtikkoidgamlgnaaE1
import Derived.Laws.CopyRow
import Derived.Laws.Tables
import Derived.Laws.NewBlocks
import Derived.Laws.MakeOwn
import Derived.Laws.IdiomCopy
import Derived.IntWalk
import Derived.Laws.Closers25
set_option linter.unusedVariables false
set_option linter.unusedSimpArgs false
namespace Go.X
open Go.RowKit
/-! ### Worlds -/
def Ex(w w':World):Prop:=Below w.heap.size w w'
theorem Ex.refl(w:World):Ex w w:=Below.refl _ _
theorem Ex.size{w w':World}(h:Ex w w'):w.heap.size≤w'.heap.size:=Below.size h
theorem Ex.trans{a b c:World}(h:Ex a b)(k:Ex b c):Ex a c:=Below.trans h (Below.mono k (Below.size h))
theorem Ex.drew(w:World):Ex w w.drew:=Below.drew (Below.refl _ _)
theorem Below.ex{B:Nat}{a b c:World}(h:Below B a b)(k:Ex b c)(hB:B≤b.heap.size):Below B a c:=h.trans (Below.mono k hB)
structure fG (b:Nat) (w w':World):Prop where
 os:w'.os=w.os
 tape:w'.tape=w.tape
 output:w'.output=w.output
 size:w'.heap.size=w.heap.size
 block:∀k,k≠b→w'.heap[k]? = w.heap[k]?
theorem Below.only{B b:Nat}{a w w':World}(h:Below B a w)(k:fG b w w')(hb:B≤b):Below B a w':=
 ⟨k.os.trans h.os,k.tape.trans h.tape,k.output.trans h.output,by rw[k.size];exact h.size,fun i hi=>(k.block i (by omega)).trans (h.block i hi)⟩
def OD(w:World)(b:Nat)(T:TypeId)(cs:List Value):Prop:=w.heap[b]? = some (.cells cs.toArray T (0,0))
theorem OD.lt{w:World}{b:Nat}{T:TypeId}{cs:List Value}(h:OD w b T cs):b<w.heap.size:=by
 rcases Nat.lt_or_ge b w.heap.size with hlt | hge
 ·exact hlt
 ·unfold OD at h;rw[Array.getElem?_eq_none hge]at h;cases h
theorem OD.ex{w w':World}{b:Nat}{T:TypeId}{cs:List Value}(h:OD w b T cs)(e:Ex w w'):OD w' b T cs:=(Below.block e b h.lt).trans h
theorem OD.only{w w':World}{b b':Nat}{T:TypeId}{cs:List Value}(h:OD w b T cs)(e:fG b' w w')(hn:b≠b'):OD w' b T cs:=(e.block b hn).trans h
theorem OD.cell{w:World}{b:Nat}{T:TypeId}{cs:List Value}(h:OD w b T cs)(i:Nat):w.cell? ⟨b,i,none⟩=cs[i]? := by
 unfold OD at h
 simp[World.cell?,h]
theorem OD.frozen{w:World}{b:Nat}{T:TypeId}{cs:List Value}(h:OD w b T cs)(i:Nat):w.frozen? ⟨b,i,none⟩=false:=by
 unfold OD at h
 simp[World.frozen?,h]
def dE(w:World)(b o:Nat)(cs:List Value):Prop:=∀j u,cs[j]? = some u→w.cell? ⟨b,o+j,none⟩=some u
theorem OD.cells{w:World}{b:Nat}{T:TypeId}{cs:List Value}(h:OD w b T cs){o n:Nat}{sub:List Value}(hs:(cs.drop o).take n=sub):dE w b o sub:=by
 intro j u hu
 subst hs
 rw[h.cell]
 rw[List.getElem?_take]at hu
 split at hu
 ·rwa[List.getElem?_drop]at hu
 ·cases hu
theorem dE.block_lt{w:World}{b o:Nat}{cs:List Value}(h:dE w b o cs)(hl:0<cs.length):b<w.heap.size:=by
 have:=h 0 _ (List.getElem?_eq_getElem hl)
 rcases Nat.lt_or_ge b w.heap.size with hlt | hge
 ·exact hlt
 ·simp[World.cell?,Array.getElem?_eq_none hge]at this
theorem dE.keep{w w':World}{b o:Nat}{cs:List Value}(h:dE w b o cs)(hk:w'.heap[b]? = w.heap[b]?):dE w' b o cs:=by
 intro j u hu
 have:=h j u hu
 simpa [World.cell?,hk]using this
theorem dE.ex{w w':World}{b o:Nat}{cs:List Value}(h:dE w b o cs)(e:Ex w w'):dE w' b o cs:=by
 rcases Nat.eq_zero_or_pos cs.length with h0 | h0
 ·intro j u hu;rw[List.eq_nil_of_length_eq_zero h0]at hu;simp at hu
 ·exact h.keep (Below.block e b (h.block_lt h0))
theorem dE.only{w w':World}{b b' o:Nat}{cs:List Value}(h:dE w b o cs)(e:fG b' w w')(hn:b≠b'):dE w' b o cs:=h.keep (e.block b hn)
theorem PF(b o k:Nat):(⟨b,o,none⟩:Addr).add k=⟨b,o+k,none⟩:=by
 unfold Addr.add;split<;>simp_all
/-! ### Types -/
def LM:TypeDesc→Bool
 | .struct _ | .array _ _=>true
 | _=>false
def HF(P:Program)(T:TypeId):Option (Nat×Nat×Option Value×Bool):=
 match P.info? T,P.underlying T with
 | some i,some d=>some (i.size,i.bytes,i.zero,LM d)
 | _,_=>none
theorem HF.spec{P:Program}{T:TypeId}{sz bytes:Nat}{z:Option Value}{ag:Bool}(h:HF P T=some (sz,bytes,z,ag)) :
  ∃i d,P.info? T=some i∧P.underlying T=some d∧i.size=sz∧i.bytes=bytes∧i.zero=z∧LM d=ag:=by
 unfold HF at h
 cases hi:P.info? T with
 | none=>simp[hi]at h
 | some i=>
  cases hd:P.underlying T with
  | none=>simp[hi,hd]at h
  | some d=>
   simp only[hi,hd,Option.some.injEq,Prod.mk.injEq]at h
   exact⟨i,d,rfl,rfl,h.1,h.2.1,h.2.2.1,h.2.2.2⟩
def EE(P:Program)(T:TypeId)(k:Nat):Option (Nat×Nat×Bool):=
 match P.underlying T with
 | some (.struct fs)=>match fs[k]? with
  | some f=>match HF P f.type with
   | some (sz,_,_,ag)=>some (f.offset,sz,ag)
   | none=>none
  | none=>none
 | _=>none
section
variable {P:Program}{o:Oper}{L:List (Nat×Value)}{w:World}{R:Value→World→Prop}
theorem Yl.val{v:Value}(h:∀ρ,SL L ρ→(execOp ρ o).run P w=.ok (.value v) w)(hR:R v w):Yl P o L w R:=fun ρ hρ=>by
 unfold BI;rw[h ρ hρ];exact hR
theorem yM{x:Operand}{v:Value}(ho:o.op=.move x)(hx:tD L x=some v)(hR:R v w):Yl P o L w R:=
 .val (v:=v) (fun ρ hρ=>by simp[execOp,ho,hρ x v hx]) hR
theorem yA{x:Operand}{v:Value}(ho:o.op=.assign x)(hx:tD L x=some v)(hR:R v w):Yl P o L w R:=
 .val (v:=v) (fun ρ hρ=>by simp[execOp,ho,hρ x v hx]) hR
theorem LA{c x y:Operand}{g:Bool}{v:Value}(ho:o.op=.pick c x y)(hc:tD L c=some (.bool g))(hg:g=true)(hx:tD L x=some v)(hR:R v w):Yl P o L w R:=
 .val (v:=v) (fun ρ hρ=>by simp[execOp,ho,hρ x v hx,hρ c _ hc,asBool,hg]) hR
theorem xA{c x y:Operand}{g:Bool}{v:Value}(ho:o.op=.pick c x y)(hc:tD L c=some (.bool g))(hg:g=false)(hx:tD L y=some v)(hR:R v w):Yl P o L w R:=
 .val (v:=v) (fun ρ hρ=>by simp[execOp,ho,hρ y v hx,hρ c _ hc,asBool,hg]) hR
theorem KB{x:Operand}{i:Nat}{vs:Array Value}{v:Value}(ho:o.op=.extract x i)(hx:tD L x=some (.tuple vs))(hv:vs[i]? = some v)(hR:R v w):Yl P o L w R:=
 .val (v:=v) (fun ρ hρ=>by simp[execOp,ho,hρ x _ hx,Instr.extract,hv]) hR
theorem mC{x:Operand}{t:TypeId}{g:Bool}(ho:o.op=.unOp .not t x)(hx:tD L x=some (.bool g))(hR:R (.bool !g) w):Yl P o L w R:=
 .val (v:=.bool !g) (fun ρ hρ=>by simp[execOp,ho,hρ x _ hx,Op.unary]) hR
def BL:Value→Bool
 | .agg _ | .nilIface=>false
 | _=>true
theorem KG(op:BinOp)(t:TypeId)(x y:Operand)(u v:Value)(hu:BL u=true)(w:World):(eqGuard op t x y u v).run P w=.ok () w:=by
 unfold eqGuard
 cases op<;>cases u<;>first | rfl | (simp[BL]at hu)
theorem JD(op:BinOp)(t:TypeId)(x y:Operand)(k:IntKind)(a:Int)(v:Value)(w:World):(eqGuard op t x y (.int k a) v).run P w=.ok () w:=KG op t x y _ v rfl w
theorem cK(op:BinOp)(t:TypeId)(x y:Operand)(a:Bool)(v:Value)(w:World):(eqGuard op t x y (.bool a) v).run P w=.ok () w:=KG op t x y _ v rfl w
theorem lF(op:BinOp)(t:TypeId)(x y:Operand)(a:ByteArray)(v:Value)(w:World):(eqGuard op t x y (.string a) v).run P w=.ok () w:=KG op t x y _ v rfl w
section ints
variable {x y:Operand}{t t':TypeId}{k:IntKind}{a b:Int}
theorem cG(ho:o.op=.binOp .add t x y t')(hx:tD L x=some (.int k a))(hy:tD L y=some (.int k b))(hR:R (.int k (k.wrap (a+b))) w):Yl P o L w R:=
 .val (fun ρ hρ=>by simp[execOp,ho,hρ x _ hx,hρ y _ hy,JD,binOp,Op.intArith]) hR
theorem uF(ho:o.op=.binOp .sub t x y t')(hx:tD L x=some (.int k a))(hy:tD L y=some (.int k b))(hR:R (.int k (k.wrap (a-b))) w):Yl P o L w R:=
 .val (fun ρ hρ=>by simp[execOp,ho,hρ x _ hx,hρ y _ hy,JD,binOp,Op.intArith]) hR
theorem lK(ho:o.op=.binOp .mul t x y t')(hx:tD L x=some (.int k a))(hy:tD L y=some (.int k b))(hR:R (.int k (k.wrap (a*b))) w):Yl P o L w R:=
 .val (fun ρ hρ=>by simp[execOp,ho,hρ x _ hx,hρ y _ hy,JD,binOp,Op.intArith]) hR
theorem cN(ho:o.op=.binOp .quo t x y t')(hx:tD L x=some (.int k a))(hy:tD L y=some (.int k b))(h0:b≠0)(hR:R (.int k (k.wrap (a.tdiv b))) w):Yl P o L w R:=
 .val (fun ρ hρ=>by simp[execOp,ho,hρ x _ hx,hρ y _ hy,JD,binOp,Op.intDiv,h0]) hR
theorem OL(ho:o.op=.binOp .rem t x y t')(hx:tD L x=some (.int k a))(hy:tD L y=some (.int k b))(h0:b≠0)(hR:R (.int k (a.tmod b)) w):Yl P o L w R:=
 .val (fun ρ hρ=>by simp[execOp,ho,hρ x _ hx,hρ y _ hy,JD,binOp,Op.intDiv,h0]) hR
theorem VF(ho:o.op=.binOp .eql t x y t')(hx:tD L x=some (.int k a))(hy:tD L y=some (.int k b))(hR:R (.bool (decide (a=b))) w):Yl P o L w R:=
 .val (fun ρ hρ=>by simp[execOp,ho,hρ x _ hx,hρ y _ hy,JD,binOp,Op.intCmp];rfl) hR
theorem bN(ho:o.op=.binOp .neq t x y t')(hx:tD L x=some (.int k a))(hy:tD L y=some (.int k b))(hR:R (.bool !(decide (a=b))) w):Yl P o L w R:=
 .val (fun ρ hρ=>by simp[execOp,ho,hρ x _ hx,hρ y _ hy,JD,binOp,Op.intCmp,bne];rfl) hR
theorem LB(ho:o.op=.binOp .lss t x y t')(hx:tD L x=some (.int k a))(hy:tD L y=some (.int k b))(hR:R (.bool (decide (a<b))) w):Yl P o L w R:=
 .val (fun ρ hρ=>by simp[execOp,ho,hρ x _ hx,hρ y _ hy,JD,binOp,Op.intCmp]) hR
theorem HE(ho:o.op=.binOp .leq t x y t')(hx:tD L x=some (.int k a))(hy:tD L y=some (.int k b))(hR:R (.bool (decide (a≤b))) w):Yl P o L w R:=
 .val (fun ρ hρ=>by simp[execOp,ho,hρ x _ hx,hρ y _ hy,JD,binOp,Op.intCmp]) hR
theorem XE(ho:o.op=.binOp .gtr t x y t')(hx:tD L x=some (.int k a))(hy:tD L y=some (.int k b))(hR:R (.bool (decide (b<a))) w):Yl P o L w R:=
 .val (fun ρ hρ=>by simp[execOp,ho,hρ x _ hx,hρ y _ hy,JD,binOp,Op.intCmp]) hR
theorem WF(ho:o.op=.binOp .geq t x y t')(hx:tD L x=some (.int k a))(hy:tD L y=some (.int k b))(hR:R (.bool (decide (b≤a))) w):Yl P o L w R:=
 .val (fun ρ hρ=>by simp[execOp,ho,hρ x _ hx,hρ y _ hy,JD,binOp,Op.intCmp]) hR
end ints
/-! ### Bools -/
theorem run_equalIn_bool{t:TypeId}(hu:P.underlying t=some .bool)(a b:Bool)(d:Nat)(w:World):(Op.equalIn (d+1) t (.bool a) (.bool b)).run P w=.ok (a==b) w:=by
 simp[Op.equalIn,run_underlying hu]
theorem tM{x y:Operand}{t t':TypeId}{a b:Bool}(hu:P.underlying t=some .bool)(ho:o.op=.binOp .neq t x y t')(hx:tD L x=some (.bool a))(hy:tD L y=some (.bool b))(hR:R (.bool !(a==b)) w):Yl P o L w R:=
 .val (fun ρ hρ=>by
  have e:binOp .neq t (.bool a) (.bool b)=(do pure (.bool !(←Op.equalIn (9999+1) t (.bool a) (.bool b)))):=rfl
  simp only[execOp,ho,hρ x _ hx,hρ y _ hy,Sem.run_bind,cK,Result.andThen_ok,e,run_equalIn_bool hu,Sem.run_pure]) hR
/-! ### Strings: lists of bytes -/
abbrev tB:=List UInt8
def bs(l:tB):ByteArray:=⟨l.toArray⟩
theorem aM(l:tB):(bs l).size=l.length:=rfl
theorem LF(l:tB):(bs l).toList=l:=by rw[ByteArray.toList_eq];rfl
def SG:tB→tB→Bool:=Op.bytesLess
def XK(a b:tB):Bool:=SG a b||a==b
section strs
variable {x y:Operand}{t t':TypeId}{a b:tB}
theorem kJ(ho:o.op=.binOp .eql t x y t')(hx:tD L x=some (.string (bs a)))(hy:tD L y=some (.string (bs b)))(hR:R (.bool (a==b)) w):Yl P o L w R:=
 .val (fun ρ hρ=>by simp only[execOp,ho,hρ x _ hx,hρ y _ hy,Sem.run_bind,lF,Result.andThen_ok,binOp,Op.stringOp,LF,Sem.run_pure]) hR
theorem zM(ho:o.op=.binOp .neq t x y t')(hx:tD L x=some (.string (bs a)))(hy:tD L y=some (.string (bs b)))(hR:R (.bool !(a==b)) w):Yl P o L w R:=
 .val (fun ρ hρ=>by simp only[execOp,ho,hρ x _ hx,hρ y _ hy,Sem.run_bind,lF,Result.andThen_ok,binOp,Op.stringOp,LF,Sem.run_pure]) hR
theorem xM(ho:o.op=.binOp .leq t x y t')(hx:tD L x=some (.string (bs a)))(hy:tD L y=some (.string (bs b)))(hR:R (.bool (XK a b)) w):Yl P o L w R:=
 .val (fun ρ hρ=>by simp only[execOp,ho,hρ x _ hx,hρ y _ hy,Sem.run_bind,lF,Result.andThen_ok,binOp,Op.stringOp,LF,Sem.run_pure,SG,XK]) hR
theorem wM(ho:o.op=.binOp .gtr t x y t')(hx:tD L x=some (.string (bs a)))(hy:tD L y=some (.string (bs b)))(hR:R (.bool !(XK a b)) w):Yl P o L w R:=
 .val (fun ρ hρ=>by simp only[execOp,ho,hρ x _ hx,hρ y _ hy,Sem.run_bind,lF,Result.andThen_ok,binOp,Op.stringOp,LF,Sem.run_pure,SG,XK]) hR
theorem vM(ho:o.op=.binOp .geq t x y t')(hx:tD L x=some (.string (bs a)))(hy:tD L y=some (.string (bs b)))(hR:R (.bool !(SG a b)) w):Yl P o L w R:=
 .val (fun ρ hρ=>by simp only[execOp,ho,hρ x _ hx,hρ y _ hy,Sem.run_bind,lF,Result.andThen_ok,binOp,Op.stringOp,LF,Sem.run_pure,SG]) hR
theorem aL(hu:P.underlying t=some .string){i:Int}{k:IntKind}(ho:o.op=.index t x y)(hx:tD L x=some (.string (bs a)))(hy:tD L y=some (.int k i))(h0:0≤i)(h1:i<a.length)
  (hR:R (.int .u8 (a.getD i.toNat 0).toNat) w):Yl P o L w R:=
 .val (fun ρ hρ=>by
  have hi:i.toNat<a.length:=by omega
  have hg:(bs a)[i.toNat]? = some (a.getD i.toNat 0):=by
   show(⟨a.toArray⟩:ByteArray)[i.toNat]? = _
   rw[getElem?_pos _ _ (by simpa [ByteArray.size]using hi)]
   simp[List.getD,List.getElem?_eq_getElem hi,ByteArray.getElem_eq_getElem_data]
  simp[execOp,ho,hρ x _ hx,hρ y _ hy,Instr.index,asIntOf,run_underlying hu,h0,hg]) hR
theorem XD(hu:P.underlying t=some .string)(ho:o.op=.call { callee:=.builtin .len,args:=#[x],argTypes:=#[t]})(hx:tD L x=some (.string (bs a)))(hR:R (.int .i64 (a.length:Int)) w):Yl P o L w R:=
 .val (fun ρ hρ=>by simp[execOp,ho,hρ x _ hx,resolve,invoke,builtin,Builtin.len_,run_underlying hu,goInt,aM]) hR
end strs
/-! ### Slices -/
theorem yL{x:Operand}{t e:TypeId}{A:Option Addr}{n c:Nat}(hu:P.underlying t=some (.slice e))(ho:o.op=.call { callee:=.builtin .len,args:=#[x],argTypes:=#[t]})(hx:tD L x=some (.slice A n c))(hR:R (.int .i64 (n:Int)) w):Yl P o L w R:=
 .val (fun ρ hρ=>by simp[execOp,ho,hρ x _ hx,resolve,invoke,builtin,Builtin.len_,run_underlying hu,goInt]) hR
theorem TB{x y:Operand}{t e:TypeId}{A:Option Addr}{n c b off sz by_:Nat}{z:Option Value}{ag:Bool}{i:Int}{k:IntKind}(hu:P.underlying t=some (.slice e))(he:HF P e=some (sz,by_,z,ag))
  (ho:o.op=.indexAddr t x y) (hx:tD L x=some (.slice A n c)) (hy:tD L y=some (.int k i)) (hA:A=some ⟨b,off,none⟩) (h0:0≤i) (h1:i<n) (hR:R (.pointer (some ⟨b,off+i.toNat*sz,none⟩)) w):Yl P o L w R:=by
 obtain⟨ie,d,hi,_,hsz,_⟩:=HF.spec he
 subst hA
 refine .val (fun ρ hρ=>?_) hR
 simp[execOp,ho,hρ x _ hx,hρ y _ hy,Instr.indexAt,asIntOf,run_underlying hu,h0,h1,sizeOf,typeInfo,hi,hsz,PF]
theorem gA{x:Operand}{t:TypeId}{k fo fz b off:Nat}{ag:Bool}(hf:EE P t k=some (fo,fz+1,ag))(ho:o.op=.fieldAddr t x k)(hx:tD L x=some (.pointer (some ⟨b,off,none⟩)))
  (hR:R (.pointer (some ⟨b,off+fo,none⟩)) w):Yl P o L w R:=by
 unfold EE at hf
 split at hf
 ·rename_i fs hu
  split at hf
  ·rename_i f hfk
   split at hf
   ·rename_i sz by_ z ag' hty
    simp only[Option.some.injEq,Prod.mk.injEq]at hf
    obtain⟨h1,h2,h3⟩:=hf
    obtain⟨ie,d,hi,_,hsz,_⟩:=HF.spec hty
    refine .val (fun ρ hρ=>?_) hR
    have hne:ie.size≠0:=by omega
    simp[execOp,ho,hρ x _ hx,Instr.fieldAt,run_underlying hu,hfk,Instr.sureAddr,fieldPlace,sizeOf,typeInfo,hi,hne,PF,h1]
   ·cases hf
  ·cases hf
 ·cases hf
theorem aJ{T:TypeId}{sz by_:Nat}{z:Option Value}{ag:Bool}(h:HF P T=some (sz,by_,z,ag))(w:World):(isAgg T).run P w=.ok ag w:=by
 obtain⟨i,d,hi,hd,_,_,_,ha⟩:=HF.spec h
 unfold isAgg
 simp only[Sem.run_bind,run_underlying hd,Result.andThen_ok]
 subst ha
 cases d<;>rfl
theorem BF{T:TypeId}{sz by_:Nat}{z:Option Value}{ag:Bool}(h:HF P T=some (sz,by_,z,ag))(w:World):(sizeOf T).run P w=.ok sz w:=by
 obtain⟨i,d,hi,hd,hs,_⟩:=HF.spec h
 simp[sizeOf,typeInfo,hi,hs]
theorem WK{T:TypeId}{sz by_:Nat}{z:Option Value}(h:HF P T=some (sz,by_,z,false)){a:Addr}{v:Value}(hc:w.cell? a=some v):(loadVar T a).run P w=.ok v w:=by
 unfold loadVar
 simp only[Sem.run_bind,aJ h,Result.andThen_ok]
 simp[load,Sem.run,hc]
theorem VE{T:TypeId}{sz by_:Nat}{z:Option Value}(h:HF P T=some (sz,by_,z,true)){b off:Nat}{cs:List Value}(hl:cs.length=sz)(hc:dE w b off cs):(loadVar T ⟨b,off,none⟩).run P w=.ok (.agg cs.toArray) w:=by
 unfold loadVar
 simp only[Sem.run_bind,aJ h,Result.andThen_ok,if_true,BF h]
 rw[←hl]
 have:=run_loadCells_list (P:=P) w ⟨b,off,none⟩ cs (fun j v hv=>by rw[PF];exact hc j v hv)
 simp[this]
theorem wA{x:Operand}{T:TypeId}{sz by_:Nat}{z:Option Value}{a:Addr}{v:Value}(hT:HF P T=some (sz,by_,z,false))(ho:o.op=.load T x)(hx:tD L x=some (.pointer (some a)))(hc:w.cell? a=some v)(hR:R v w):Yl P o L w R:=
 .val (fun ρ hρ=>by
  simp only[execOp,ho,hρ x _ hx,Instr.loadAt,Instr.sureAddr,pure_bind,Sem.run_bind,WK hT hc,Result.andThen_ok,Sem.run_pure]) hR
theorem QB{x:Operand}{T:TypeId}{sz by_:Nat}{z:Option Value}{b off:Nat}{cs:List Value}(hT:HF P T=some (sz,by_,z,true))(ho:o.op=.load T x)(hx:tD L x=some (.pointer (some ⟨b,off,none⟩)))(hc:dE w b off cs)(hl:cs.length=sz)(hR:R (.agg cs.toArray) w):Yl P o L w R:=
 .val (fun ρ hρ=>by
  simp only[execOp,ho,hρ x _ hx,Instr.loadAt,Instr.sureAddr,pure_bind,Sem.run_bind,VE hT hl hc,Result.andThen_ok,Sem.run_pure]) hR
theorem YF(w:World)(cs:List Value)(T:TypeId):(w.alloc (.cells cs.toArray T)).heap.size=w.heap.size+1∧OD (w.alloc (.cells cs.toArray T)) w.heap.size T cs∧Ex w (w.alloc (.cells cs.toArray T)):=
 ⟨Array.size_push ..,by show(w.heap.push _)[w.heap.size]? = _;simp,(Below.refl _ _).alloc (Nat.le_refl _) _⟩
theorem dG{x:Operand}{T:TypeId}{v:Value}{cs:List Value}(ho:o.op=.box T x)(hx:tD L x=some v)(hc:v.cells=cs.toArray)
  (hR:∀b w',w.heap.size=b→w'.heap.size=b+1→OD w' b T cs→Ex w w'→R (.pointer (some ⟨b,0,none⟩)) w'):Yl P o L w R:=fun ρ hρ=>by
 obtain⟨h1,h2,h3⟩:=YF w cs T
 have e:(execOp ρ o).run P w=.ok (.value (.pointer (some ⟨w.heap.size,0,none⟩))) (w.alloc (.cells cs.toArray T)):=by
  simp[execOp,ho,hρ x _ hx,Instr.box,newVar,newRow,hc]
 unfold BI
 rw[e]
 exact hR _ _ rfl h1 h2 h3
theorem DJ{T:TypeId}{sz by_:Nat}{z:Value}{ag:Bool}(h:HF P T=some (sz,by_,some z,ag))(w:World):(zeroValue T).run P w=.ok z w:=by
 obtain⟨i,d,hi,hd,_,_,hz,_⟩:=HF.spec h
 simp[zeroValue,typeInfo,hi,hz]
theorem yB{T:TypeId}{sz by_:Nat}{z:Value}{ag:Bool}{cs:List Value}(hT:HF P T=some (sz,by_,some z,ag))(ho:o.op=.alloc T)(hc:z.cells=cs.toArray)
  (hR:∀b w',w.heap.size=b→w'.heap.size=b+1→OD w' b T cs→Ex w w'→R (.pointer (some ⟨b,0,none⟩)) w'):Yl P o L w R:=fun ρ hρ=>by
 obtain⟨h1,h2,h3⟩:=YF w cs T
 have e:(execOp ρ o).run P w=.ok (.value (.pointer (some ⟨w.heap.size,0,none⟩))) (w.alloc (.cells cs.toArray T)):=by
  simp[execOp,ho,Instr.alloc,DJ hT,newVar,newRow,hc]
 unfold BI
 rw[e]
 exact hR _ _ rfl h1 h2 h3
def OC(cs:List Value)(off:Nat)(vs:List Value):List Value:=cs.take off++vs++cs.drop (off+vs.length)
theorem vF{cs vs:List Value}{off:Nat}(h:off+vs.length≤cs.length):(OC cs off vs).length=cs.length:=by
 simp[OC];omega
theorem EJ(w:World)(b:Nat)(cs:Array Value):fG b w (w.setRow b cs):=
 ⟨rfl,rfl,rfl,by simp[World.setRow],fun k hk=>by simp[World.setRow,Array.getElem?_modify,Ne.symm hk]⟩
theorem mG{x y:Operand}{T T0:TypeId}{sz by_ b off:Nat}{z:Option Value}{ag:Bool}{v:Value}{vs cs:List Value}(hT:HF P T=some (sz,by_,z,ag))(ho:o.op=.store T x y)(hx:tD L x=some (.pointer (some ⟨b,off,none⟩)))
  (hy:tD L y=some v) (hc:v.cells=vs.toArray) (hl:vs.length=sz) (h1:vs.all Value.oneCell'=true) (hB:OD w b T0 cs) (hoff:off+sz≤cs.length)
  (hR:∀w',OD w' b T0 (OC cs off vs)→fG b w w'→R undef w'):Yl P o L w R:=fun ρ hρ=>by
 have h1':∀u∈vs,u.oneCell'=true:=by simpa using h1
 have hst:=run_storeCells_at (P:=P) b off T0 vs 0 cs.toArray w hB (by simp;omega) h1'
 have e:(execOp ρ o).run P w=.ok .skip (w.setRow b (OC cs off vs).toArray):=by
  simp only[execOp,ho,hρ x _ hx,hρ y _ hy,Instr.storeAt,Instr.sureAddr,pure_bind,storeVar,Sem.run_bind,BF hT,Result.andThen_ok,hc]
  have:¬(vs.toArray.size≠sz):=by simp[hl]
  simp only[if_neg this]
  simp only[Nat.add_zero]at hst
  rw[hst]
  rfl
 unfold BI
 rw[e]
 refine hR _ ?_ (EJ _ _ _)
 unfold OD
 exact setRow_heap w b cs.toArray (OC cs off vs).toArray T0 _ hB
end
end Go.X
