/- A region that draws its order: each operation by itself. -/
import Derived.Test.YtdknedcbonflgaaDoorE3
set_option linter.unusedVariables false
set_option linter.unusedSimpArgs false
namespace Go.X
open Go.RowKit
def oD(o:Oper):List Nat:=o.after.toList.filterMap fun e=>bif Region.binds .any e then some e.on else none
theorem cD{o:Oper}{j:Nat}:j∈oD o↔∃e∈o.after,Region.binds .any e=true∧e.on=j:=by
 simp only[oD,List.mem_filterMap,Array.mem_toList_iff]
 constructor
 ·rintro⟨e,he,h⟩
  by_cases hb:Region.binds .any e=true
  ·simp[hb]at h;exact⟨e,he,hb,h⟩
  ·simp[hb]at h
 ·rintro⟨e,he,hb,rfl⟩
  exact⟨e,he,by simp[hb]⟩
def BI(i t:Nat)(ops:List Oper):Bool:=ops.all fun o=>match o.dst with
 | some d=>!Nat.beq d t||(oD o).any (Nat.beq i)
 | none=>true
def vL(t:Nat)(ops:List Oper):Bool:=ops.all fun o=>match o.dst with
 | some d=>!Nat.beq d t
 | none=>true
def hF:Nat→List Oper→Bool
 | _,[]=>true
 | i,o::l=>(oD o).all (Nat.blt · i)&&hF (i+1) l
theorem XD{ops:List Oper}:∀{k:Nat},hF k ops=true→∀i o,ops[i]? = some o→∀j∈oD o,j<k+i:=by
 induction ops with
 | nil=>intro k _ i o h;simp at h
 | cons o' l ih=>
  intro k h i o hi j hj
  simp only[hF,Bool.and_eq_true,List.all_eq_true]at h
  cases i with
  | zero=>simp at hi;subst hi;have:=h.1 j hj;simpa [Nat.blt_eq]using this
  | succ i=>have:=ih h.2 i o (by simpa using hi) j hj;omega
def cH:List Oper→Bool
 | []=>true
 | o::l=>(match o.dst with | some d=>vL d l | none=>true)&&cH l
theorem cG{t:Nat}{ops:List Oper}(h:vL t ops=true):∀o∈ops,o.dst≠some t:=by
 intro o ho hd
 have:=List.all_eq_true.1 h o ho
 rw[hd]at this
 simp at this
theorem dH{ops:List Oper}(h:cH ops=true):∀(i j:Nat) (o o':Oper) (d:Tmp),ops[i]? = some o→ops[j]? = some o'→o.dst=some d→o'.dst=some d→i=j:=by
 induction ops with
 | nil=>intro i j o o' d h;simp at h
 | cons p l ih=>
  simp only[cH,Bool.and_eq_true]at h
  intro i j o o' d hi hj ho ho'
  cases i with
  | zero=>
   cases j with
   | zero=>rfl
   | succ j=>
    simp at hi hj;subst hi
    have h1:=h.1
    rw[ho]at h1
    exact absurd ho' (cG h1 o' (List.mem_of_getElem? hj))
  | succ i=>
   cases j with
   | zero=>
    simp at hi hj;subst hj
    have h1:=h.1
    rw[ho']at h1
    exact absurd ho (cG h1 o (List.mem_of_getElem? hi))
   | succ j=>rw[ih h.2 i j o o' d (by simpa using hi) (by simpa using hj) ho ho']
structure XK (ops:List Oper) (L0:List (Nat×Value)) (w0:World) (V:Nat→Value→World→Prop) (i:Nat) (o:Oper) (L:List (Nat×Value)) (w:World):Prop where
 ex:Ex w0 w
 old:∀t v,MD L0 t=some v→BI i t ops=true→MD L t=some v
 dep:∀j d,(oD o).any (Nat.beq j)=true→(ops[j]?).bind (·.dst)=some d→∃v,MD L d=some v∧V j v w
def DK(P:Program)(ops:List Oper)(L0:List (Nat×Value))(w0:World)(V:Nat→Value→World→Prop):Nat→List Oper→Prop
 | _,[]=>True
 | i,o::l=>(∀L w,XK ops L0 w0 V i o L w→EE P ops.toArray o L w fun v w'=>V i v w'∧Ex w w')∧DK P ops L0 w0 V (i+1) l
theorem DK.spec{P:Program}{ops:List Oper}{L0:List (Nat×Value)}{w0:World}{V:Nat→Value→World→Prop}:∀{l:List Oper}{k:Nat},DK P ops L0 w0 V k l→∀i o,l[i]? = some o→∀L w,XK ops L0 w0 V (k+i) o L w→EE P ops.toArray o L w fun v w'=>V (k+i) v w'∧Ex w w'
 | [],_,_,i,o,hi=>by simp at hi
 | p::l,k,h,i,o,hi=>by
  cases i with
  | zero=>simp at hi;subst hi;exact h.1
  | succ i=>
   have:=DK.spec h.2 i o (by simpa using hi)
   rwa[show k+1+i=k+(i+1)by omega]at this
def rF:Nat→Array Value→List (Nat×Value)
 | 0,_=>[]
 | n+1,a=>(n,a.getD n undef)::rF n a
theorem AD(a:Array Value):∀n t,t<n→MD (rF n a) t=some (a.getD t undef)
 | n+1,t,h=>by
  simp only[rF,MD]
  by_cases ht:n=t
  ·subst ht;simp
  ·rw[QE ht];exact AD a n t (by omega)
theorem DD(a:Array Value):∀n t v,MD (rF n a) t=some v→a.getD t undef=v
 | n+1,t,v,h=>by
  simp only[rF,MD]at h
  by_cases ht:n=t
  ·subst ht;simpa using h
  ·rw[QE ht]at h;exact DD a n t v h
end Go.X
