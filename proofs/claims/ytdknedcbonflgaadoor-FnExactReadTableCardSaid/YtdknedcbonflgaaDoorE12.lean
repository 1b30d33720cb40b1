/- Loops that run while a test holds; calls at lengths that are spelled otherwise; bytes and strings; shifts. -/
import Derived.Test.YtdknedcbonflgaaDoorE11
import Derived.Laws.BytesArg
import Derived.Laws.IdiomStrings
set_option linter.unusedVariables false
set_option linter.unusedSimpArgs false
namespace Go.X
open Go.RowKit
theorem OD.args{P:Program}{f:FuncId}{a b:Array Value}{w:World}{R:Value→World→Prop}(h:a=b)(hc:OD P f a w R):OD P f b w R:=h▸hc
theorem bD.lit{s:nA}(h:Nat.ble s.length 1073741824=true):bD s:=Nat.le_of_ble_eq_true h
theorem okE.set{α:Type}{ok:α→Prop}{xs:List α}{i:Nat}{v:α}(h:∀y∈xs,ok y)(hv:ok v):∀y∈xs.set i v,ok y:=fun y hy=>by
 rcases List.mem_or_eq_of_mem_set hy with hy | hy
 ·exact h y hy
 ·exact hy▸hv
def YD{ρ σ:Type}(body:σ→yE ρ σ):Nat→σ→End ρ σ
 | 0,s=>.done s
 | f+1,s=>match body s with
  | .ret r=>.ret r
  | .brk s=>.done s
  | .cont s=>YD body f s
section
variable {ρ σ:Type}{body:σ→yE ρ σ}{m n:Nat}{s s':σ}{r:ρ}
theorem YD.cont(h:n<m)(hb:body s=.cont s'):YD body m s=YD body (m-1) s':=by
 obtain⟨f,hf⟩:∃f,m=f+1:=⟨m-1,by omega⟩
 subst hf
 simp only[YD,hb,Nat.add_sub_cancel]
theorem YD.ret(h:n<m)(hb:body s=.ret r):YD body m s=.ret r:=by
 obtain⟨f,hf⟩:∃f,m=f+1:=⟨m-1,by omega⟩
 subst hf
 simp only[YD,hb]
theorem YD.brk(h:n<m)(hb:body s=.brk s'):YD body m s=.done s':=by
 obtain⟨f,hf⟩:∃f,m=f+1:=⟨m-1,by omega⟩
 subst hf
 simp only[YD,hb]
end
section
variable {P:Program}{o:Oper}{L:List (Nat×Value)}{w:World}{R:Value→World→Prop}
def GJ(n:Int):List Value:=[.int .u8 n]
theorem gU:Gd (RF GJ):=RF.good fun _=>rfl
def YJ(xs:List Int):nA:=xs.map fun n=>UInt8.ofNat n.toNat
theorem pD(xs:List Int):(YJ xs).length=xs.length:=List.length_map ..
theorem tJ{xs:List Int}(h:xs.length≤1073741824):bD (YJ xs):=by unfold bD;rw[pD];exact h
theorem pC.u8{w:World}{S:Nat→Prop}{cs:List Value}{xs:List Int}(h:pC (RF GJ w S) 1 cs xs):cs=xs.map (Value.int .u8):=by
 induction h with
 | nil=>rfl
 | @cons c x cs xs hl hx hs ih=>rw[hx,ih];rfl
theorem yK{x:Operand}{src dst e:TypeId}{S:Nat→Prop}{A:Option Addr}{n c:Nat}{xs:List Int}(hs:P.underlying src=some (.slice e))(he:P.underlying e=some (.int .u8))(hd:P.underlying dst=some .string)
  (ho:o.op=.convert src dst x) (hx:HC L x=some (.slice A n c)) (h:nC w S (RF GJ) 1 A n c xs) (hR:R (.string (bs (YJ xs))) w):Yl P o L w R:=
 Yl.val (fun ρ hρ=>by
  simp only[execOp,ho,hρ x _ hx]
  obtain⟨h1,h2,h3,cells,he',h4⟩:=h
  have hc:=he'.u8
  rcases h4 with h4 | ⟨b,off,hA,hSb,hb,hcell⟩
  ·subst h4
   have hn:n=0:=h1
   subst hn
   rcases A with _ | a
   ·have e1:(convert src dst (.slice none 0 c)).run P w=.ok (.string (bs (YJ []))) w:=by
     rw[run_convert_bytes_string w src dst e none 0 c hs he hd]
     simp[Conv.bytesToString]
     rfl
    simp only[Sem.run_bind,e1,Result.andThen_ok,Sem.run_pure]
   ·have e1:=run_convert_bytes_back (P:=P) w src dst e a c [] hs he hd (fun j hj=>by cases hj)
    have e2:(convert src dst (.slice (some a) 0 c)).run P w=.ok (.string (bs (YJ []))) w:=e1
    simp only[Sem.run_bind,e2,Result.andThen_ok,Sem.run_pure]
  ·subst hA
   have e1:=run_convert_bytes_arg (P:=P) w src e hs he b off n c xs h1.symm (fun i hi=>by
    rw[hcell i (.int .u8 (xs.getD i 0)) (by
     rw[hc,List.getElem?_map]
     have:i<xs.length:=by omega
     simp[List.getElem?_eq_getElem this])]) dst hd
   have e2:(convert src dst (.slice (some ⟨b,off,none⟩) n c)).run P w=.ok (.string (bs (YJ xs))) w:=e1
   simp only[Sem.run_bind,e2,Result.andThen_ok,Sem.run_pure]) hR
end
end Go.X
