import Derived.Test.YtjgimhdmpcincaaGreatDoorE17
/-! Shorter words for what the printed proofs say again and again. -/
set_option linter.unusedVariables false
set_option linter.unusedSimpArgs false
namespace Go.X
open Go.RowKit
theorem cL:(∀(α:Type) (a b:α),cond true a b=a)∧(∀(α:Type) (a b:α),cond false a b=b)∧(∀(ρ σ T:Type) (s:σ) (fr:ρ→T) (fd:σ→T),rE (.done s) fr fd=fd s)∧(∀(ρ σ T:Type) (r:ρ) (fr:ρ→T) (fd:σ→T),rE (.ret r) fr fd=fr r):=
 ⟨fun _ _ _=>rfl,fun _ _ _=>rfl,fun _ _ _ _ _ _=>rfl,fun _ _ _ _ _ _=>rfl⟩
theorem wI(n:Int):IntKind.wrap .i64 n=(n+9223372036854775808) % 18446744073709551616-9223372036854775808:=IntKind.wrap_i64 n
abbrev oc:=@lQ
abbrev oz:=@rF
theorem Mb:∀vs:List Value,GO (vs.map bE)
 | []=>trivial
 | v::vs=>⟨gO.det v,Mb vs⟩
section
variable {P:Program}{n:Nat}{ops:Array Oper}{nx:List (Nat×Value)→World→Prop}{Q:Exit→List (Nat×Value)→World→Prop}{L:List (Nat×Value)}{w:World}
theorem dn(h:nx L w):jH P n ops (UR nx Q .normal) [] L w:=h
end
section
variable {P:Program}{ops:List Oper}{opa:Array Oper}{L0:List (Nat×Value)}{w0:World}{o:Oper}
theorem oI{K:List (Nat×Value)→World→Prop}{R:Nat→Nat→Value→World→Prop}(hg:o.guard=none)(f:∀{L w},K L w→Yl P o L w fun v w'=>(∀lo hi,R lo hi v w')∧w'=w):∀L w,K L w→kM P opa o L w fun v w'=>R w.heap.size w'.heap.size v w'∧Ex w w':=
 fun _ _ h=>os hg (f h)
variable {Vs:List (Nat→Nat→Value→World→Prop)}{i j d:Nat}{b g:Bool}
theorem oW(hg:o.guard=some (j,b))(h1:(OJ o).any (Nat.beq j)=true)(h2:(ops[j]?).bind (·.dst)=some d)(h3:Vs[j]? = some (bE (.bool g)))(hb:g=b)
  (f:∀{L w},XL ops L0 w0 (yH Vs) i o L w→Yl P o L w fun v w'=>(∀lo hi,yH Vs i lo hi v w')∧w'=w):∀L w,XL ops L0 w0 (yH Vs) i o L w→kM P ops.toArray o L w fun v w'=>yH Vs i w.heap.size w'.heap.size v w'∧Ex w w':=
 fun _ _ h=>kM.want hg (by simpa using h2) (h.dt j d h1 h2 h3) hb (Yl.sameI (f h))
theorem oS(hg:o.guard=some (j,b))(h1:(OJ o).any (Nat.beq j)=true)(h2:(ops[j]?).bind (·.dst)=some d)(h3:Vs[j]? = some (bE (.bool g)))(h4:Vs[i]? = some (bE undef))(hb:g=!b):∀L w,XL ops L0 w0 (yH Vs) i o L w→kM P ops.toArray o L w fun v w'=>yH Vs i w.heap.size w'.heap.size v w'∧Ex w w':=
 fun _ _ h=>kM.skip hg (by simpa using h2) (h.dt j d h1 h2 h3) hb ⟨by unfold yH;rw[h4];rfl,Ex.refl _⟩
theorem oU(hg:o.guard=some (j,b))(h1:(OJ o).any (Nat.beq j)=true)(h2:(ops[j]?).bind (·.dst)=some d)(h3:Vs[j]? = some (bE undef))(h4:Vs[i]? = some (bE undef)):∀L w,XL ops L0 w0 (yH Vs) i o L w→kM P ops.toArray o L w fun v w'=>yH Vs i w.heap.size w'.heap.size v w'∧Ex w w':=
 fun _ _ h=>kM.undef hg (by simpa using h2) (h.dt j d h1 h2 h3) ⟨by unfold yH;rw[h4];rfl,Ex.refl _⟩
end
theorem WE{P:Program}{o:Oper}{L:List (Nat×Value)}{w:World}{R:Value→World→Prop}{x y:Operand}{t e:TypeId}{A:Option Addr}{n c b off sz by_:Nat}{z:Option Value}{ag:Bool}{i:Nat}{k:IntKind}(hu:P.underlying t=some (.slice e))(he:VK P e=some (sz,by_,z,ag))
  (ho:o.op=.indexAddr t x y) (hx:YG L x=some (.slice A n c)) (hy:YG L y=some (.int k (i:Int))) (hA:A=some ⟨b,off,none⟩) (hR:R (.pointer (some ⟨b,off+i*sz,none⟩)) w)
  (h1:i<n:=by first | omega | assumption | (simp only[IntKind.wrap_i64]at *;omega)):Yl P o L w R:=uI hu he ho hx hy hA h1 hR
theorem kD.aD{α:Type}{w:World}{S:Nat→Prop}{R:World→(Nat→Prop)→List Value→α→Prop}{sz n c:Nat}{A:Option Addr}{xs:List α}(h:kD w S R sz A n c xs)(d:α){i:Nat}(hi:i<n:=by first | omega | assumption):∃b off cs,A=some ⟨b,off,none⟩∧S b∧b<w.heap.size∧cs.length=sz∧R w S cs (xs.getD i d)∧EI w b (off+i*sz) cs:=h.atD d hi
end Go.X
