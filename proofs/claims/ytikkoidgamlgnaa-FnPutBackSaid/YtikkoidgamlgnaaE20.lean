/- Pointers that are handed over: what a call may change beside what is new. -/
import Derived.Test.YtikkoidgamlgnaaE19
set_option linter.unusedVariables false
set_option linter.unusedSimpArgs false
namespace Go.X
open Go.RowKit
theorem YC{α β:Type}(p:α×β):(p.1,p.2)=p:=rfl
section
variable {P:Program}{o:Oper}{L:List (Nat×Value)}{w w' w0 w1:World}{R:Value→World→Prop}{p q:Nat→Prop}
theorem IE{x:Operand}{a:Addr}(ho:o.op=.nilCheck x)(hx:tD L x=some (.pointer (some a)))(hR:R (.pointer (some a)) w):Yl P o L w R:=
 .val (v:=.pointer (some a)) (fun ρ hρ=>by simp[execOp,ho,hρ x _ hx]) hR
theorem rD.tex(h:rD p w0 w)(e:Ex w w'):rD p w0 w':=h.trans (rD.of_ex e)
theorem rD.tchg(h:rD p w0 w)(e:rD q w w')(hq:∀k,q k→p k∨w0.heap.size≤k):rD p w0 w':=
 ⟨e.os.trans h.os,e.tape.trans h.tape,e.output.trans h.output,Nat.le_trans h.size e.size,fun i hi hp=>(e.block i (Nat.lt_of_lt_of_le hi h.size) (fun hh=>(hq i hh).elim hp (fun hk=>by omega))).trans (h.block i hi hp)⟩
theorem rD.tonly{b:Nat}(h:rD p w0 w)(e:fG b w w')(hb:p b∨w0.heap.size≤b):rD p w0 w':=
 h.tchg (rD.of_only (p:=fun k=>k=b) e rfl) fun k hk=>by subst hk;exact hb
theorem rD.tgrown{row:Option Nat}(h:rD p w0 w)(e:w.grownBy w' row)(hr:∀k,row=some k→p k∨w0.heap.size≤k):rD p w0 w':=
 h.tchg (rD.of_grown (p:=fun k=>row=some k) e fun _ h=>h) hr
theorem bG.not{ops:List Oper}{L0:List (Nat×Value)}{p0:Gh→Nat→Prop}{V:Nat→Gh→Value→World→Prop}{i g:Nat}{G:Gh}(h:bG ops L0 w0 p0 V i L w G)(hb:DE ops 24 g i=true):G.dn g=false:=by
 cases hg:G.dn g with
 | false=>rfl
 | true=>have:=h.st.cl g i hg hb;rw[h.new]at this;cases this
theorem bG.no{ops:List Oper}{L0:List (Nat×Value)}{p0:Gh→Nat→Prop}{V:Nat→Gh→Value→World→Prop}{i j:Nat}{G:Gh}{X Y:Prop}(h:bG ops L0 w0 p0 V i L w G)(hb:DE ops 24 j i=true)(h1:G.dn j=true∧X):Y:=by
 have:=h.not hb;rw[h1.1]at this;cases this
theorem bG.nw{ops:List Oper}{L0:List (Nat×Value)}{p0:Gh→Nat→Prop}{V:Nat→Gh→Value→World→Prop}{i:Nat}{G:Gh}{X Y:Prop}(h:bG ops L0 w0 p0 V i L w G)(h1:G.dn i=true∧X):Y:=by
 have:=h.new;rw[h1.1]at this;cases this
end
end Go.X
