import Derived.Test.YtikkoidgamlgnaaE17
/-! Shorter words for what the printed proofs say again and again. -/
set_option linter.unusedVariables false
set_option linter.unusedSimpArgs false
namespace Go.X
open Go.RowKit
theorem cL:(∀(α:Type) (a b:α),cond true a b=a)∧(∀(α:Type) (a b:α),cond false a b=b)∧(∀(ρ σ T:Type) (s:σ) (fr:ρ→T) (fd:σ→T),JC (.done s) fr fd=fd s)∧(∀(ρ σ T:Type) (r:ρ) (fr:ρ→T) (fd:σ→T),JC (.ret r) fr fd=fr r):=
 ⟨fun _ _ _=>rfl,fun _ _ _=>rfl,fun _ _ _ _ _ _=>rfl,fun _ _ _ _ _ _=>rfl⟩
theorem wI(n:Int):IntKind.wrap .i64 n=(n+9223372036854775808) % 18446744073709551616-9223372036854775808:=IntKind.wrap_i64 n
abbrev oc:=@QM
abbrev oz:=@GE
theorem MP:∀vs:List Value,VH (vs.map rH)
 | []=>trivial
 | v::vs=>⟨oJ.det v,MP vs⟩
section
variable {P:Program}{n:Nat}{ops:Array Oper}{nx:List (Nat×Value)→World→Prop}{Q:Exit→List (Nat×Value)→World→Prop}{L:List (Nat×Value)}{w:World}
theorem dn(h:nx L w):sD P n ops (JJ nx Q .normal) [] L w:=h
end
section
variable {P:Program}{ops:List Oper}{opa:Array Oper}{L0:List (Nat×Value)}{w0:World}{o:Oper}
theorem oI{K:List (Nat×Value)→World→Prop}{R:Nat→Nat→Value→World→Prop}(hg:o.guard=none)(f:∀{L w},K L w→Yl P o L w fun v w'=>(∀lo hi,R lo hi v w')∧w'=w):∀L w,K L w→XG P opa o L w fun v w'=>R w.heap.size w'.heap.size v w'∧Ex w w':=
 fun _ _ h=>os hg (f h)
variable {Vs:List (Nat→Nat→Value→World→Prop)}{i j d:Nat}{b g:Bool}
theorem oW(hg:o.guard=some (j,b))(h1:(bF o).any (Nat.beq j)=true)(h2:(ops[j]?).bind (·.dst)=some d)(h3:Vs[j]? = some (rH (.bool g)))(hb:g=b)
  (f:∀{L w},BG ops L0 w0 (dF Vs) i o L w→Yl P o L w fun v w'=>(∀lo hi,dF Vs i lo hi v w')∧w'=w):∀L w,BG ops L0 w0 (dF Vs) i o L w→XG P ops.toArray o L w fun v w'=>dF Vs i w.heap.size w'.heap.size v w'∧Ex w w':=
 fun _ _ h=>XG.want hg (by simpa using h2) (h.dt j d h1 h2 h3) hb (Yl.sameI (f h))
theorem oS(hg:o.guard=some (j,b))(h1:(bF o).any (Nat.beq j)=true)(h2:(ops[j]?).bind (·.dst)=some d)(h3:Vs[j]? = some (rH (.bool g)))(h4:Vs[i]? = some (rH undef))(hb:g=!b):∀L w,BG ops L0 w0 (dF Vs) i o L w→XG P ops.toArray o L w fun v w'=>dF Vs i w.heap.size w'.heap.size v w'∧Ex w w':=
 fun _ _ h=>XG.skip hg (by simpa using h2) (h.dt j d h1 h2 h3) hb ⟨by unfold dF;rw[h4];rfl,Ex.refl _⟩
theorem oU(hg:o.guard=some (j,b))(h1:(bF o).any (Nat.beq j)=true)(h2:(ops[j]?).bind (·.dst)=some d)(h3:Vs[j]? = some (rH undef))(h4:Vs[i]? = some (rH undef)):∀L w,BG ops L0 w0 (dF Vs) i o L w→XG P ops.toArray o L w fun v w'=>dF Vs i w.heap.size w'.heap.size v w'∧Ex w w':=
 fun _ _ h=>XG.undef hg (by simpa using h2) (h.dt j d h1 h2 h3) ⟨by unfold dF;rw[h4];rfl,Ex.refl _⟩
end
theorem kF{P:Program}{o:Oper}{L:List (Nat×Value)}{w:World}{R:Value→World→Prop}{x y:Operand}{t e:TypeId}{A:Option Addr}{n c b off sz by_:Nat}{z:Option Value}{ag:Bool}{i:Nat}{k:IntKind}(hu:P.underlying t=some (.slice e))(he:xG P e=some (sz,by_,z,ag))
  (ho:o.op=.indexAddr t x y) (hx:xD L x=some (.slice A n c)) (hy:xD L y=some (.int k (i:Int))) (hA:A=some ⟨b,off,none⟩) (hR:R (.pointer (some ⟨b,off+i*sz,none⟩)) w)
  (h1:i<n:=by first | omega | assumption | (simp only[IntKind.wrap_i64]at *;omega)):Yl P o L w R:=cK hu he ho hx hy hA h1 hR
theorem GC.aD{α:Type}{w:World}{S:Nat→Prop}{R:World→(Nat→Prop)→List Value→α→Prop}{sz n c:Nat}{A:Option Addr}{xs:List α}(h:GC w S R sz A n c xs)(d:α){i:Nat}(hi:i<n:=by first | omega | assumption):∃b off cs,A=some ⟨b,off,none⟩∧S b∧b<w.heap.size∧cs.length=sz∧R w S cs (xs.getD i d)∧NE w b (off+i*sz) cs:=h.atD d hi
end Go.X
