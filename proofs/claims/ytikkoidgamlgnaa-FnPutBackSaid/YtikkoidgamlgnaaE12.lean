/- Loops that run while a test holds; calls at lengths that are spelled otherwise; bytes and strings; shifts. -/
import Derived.Test.YtikkoidgamlgnaaE11
import Derived.Laws.BytesArg
import Derived.Laws.IdiomStrings
set_option linter.unusedVariables false
set_option linter.unusedSimpArgs false
namespace Go.X
open Go.RowKit
theorem wE.args{P:Program}{f:FuncId}{a b:Array Value}{w:World}{R:Value→World→Prop}(h:a=b)(hc:wE P f a w R):wE P f b w R:=h▸hc
theorem MF.lit{s:tB}(h:Nat.ble s.length 1073741824=true):MF s:=Nat.le_of_ble_eq_true h
theorem okE.set{α:Type}{ok:α→Prop}{xs:List α}{i:Nat}{v:α}(h:∀y∈xs,ok y)(hv:ok v):∀y∈xs.set i v,ok y:=fun y hy=>by
 rcases List.mem_or_eq_of_mem_set hy with hy | hy
 ·exact h y hy
 ·exact hy▸hv
def MD{ρ σ:Type}(body:σ→wF ρ σ):Nat→σ→End ρ σ
 | 0,s=>.done s
 | f+1,s=>match body s with
  | .ret r=>.ret r
  | .brk s=>.done s
  | .cont s=>MD body f s
section
variable {ρ σ:Type}{body:σ→wF ρ σ}{m n:Nat}{s s':σ}{r:ρ}
theorem MD.cont(h:n<m)(hb:body s=.cont s'):MD body m s=MD body (m-1) s':=by
 obtain⟨f,hf⟩:∃f,m=f+1:=⟨m-1,by omega⟩
 subst hf
 simp only[MD,hb,Nat.add_sub_cancel]
theorem MD.ret(h:n<m)(hb:body s=.ret r):MD body m s=.ret r:=by
 obtain⟨f,hf⟩:∃f,m=f+1:=⟨m-1,by omega⟩
 subst hf
 simp only[MD,hb]
theorem MD.brk(h:n<m)(hb:body s=.brk s'):MD body m s=.done s':=by
 obtain⟨f,hf⟩:∃f,m=f+1:=⟨m-1,by omega⟩
 subst hf
 simp only[MD,hb]
end
def wF.sat{ρ σ:Type}(c b:σ→Prop)(r:ρ→Prop):wF ρ σ→Prop
 | .ret x=>r x
 | .brk s=>b s
 | .cont s=>c s
theorem WI{ρ σ T:Type}{body:σ→wF ρ σ}{fr:ρ→T}{fd:σ→T}(I:σ→Prop)(μ:σ→Nat)(V:T→Prop)(hb:∀s,I s→(body s).sat (fun s'=>I s'∧μ s'<μ s) (fun s'=>V (fd s')) (fun r=>V (fr r))):∀(n:Nat) (s:σ),I s→μ s<n→V (KC (MD body n s) fr fd)
 | 0,s,_,h=>by omega
 | n+1,s,hi,hn=>by
  have h:=hb s hi
  cases hbs:body s with
  | ret r=>rw[hbs]at h;simp only[MD,hbs];exact h
  | brk s'=>rw[hbs]at h;simp only[MD,hbs];exact h
  | cont s'=>rw[hbs]at h;simp only[MD,hbs];exact WI I μ V hb n s' h.1 (by have:=h.2;omega)
section
variable {P:Program}{o:Oper}{L:List (Nat×Value)}{w:World}{R:Value→World→Prop}
theorem PL{x y:Operand}{t t':TypeId}{k yk:IntKind}{a b q:Int}(ho:o.op=.binOp .shr t x y t')(hx:tD L x=some (.int k a))(hy:tD L y=some (.int yk b))(h0:0≤b)(hb:b≤k.bits)(hq:(2:Int) ^ b.toNat=q)(hR:R (.int k (a.fdiv q)) w):Yl P o L w R:=
 Yl.val (fun ρ hρ=>by
  have h1:min b.toNat k.bits=b.toNat:=Nat.min_eq_left (by omega)
  have h2:¬b<0:=by omega
  simp[execOp,ho,hρ x _ hx,hρ y _ hy,JD,binOp,Op.shift,h1,h2,hq]) hR
def CF(n:Int):List Value:=[.int .u8 n]
theorem gU:Gd (RF CF):=RF.good fun _=>rfl
def GG:Int:=0
def KN(xs:List Int):tB:=xs.map fun n=>UInt8.ofNat n.toNat
theorem ND(xs:List Int):(KN xs).length=xs.length:=List.length_map ..
theorem JB.u8{w:World}{S:Nat→Prop}{cs:List Value}{xs:List Int}(h:JB (RF CF w S) 1 cs xs):cs=xs.map (Value.int .u8):=by
 induction h with
 | nil=>rfl
 | @cons c x cs xs hl hx hs ih=>rw[hx,ih];rfl
end
end Go.X
