/- A region that draws its order: each operation by itself. -/
import Derived.Test.YtikkoidgamlgnaaE3
set_option linter.unusedVariables false
set_option linter.unusedSimpArgs false
namespace Go.X
open Go.RowKit
def sE(o:Oper):List Nat:=o.after.toList.filterMap fun e=>bif Region.binds .any e then some e.on else none
theorem bE{o:Oper}{j:Nat}:j∈sE o↔∃e∈o.after,Region.binds .any e=true∧e.on=j:=by
 simp only[sE,List.mem_filterMap,Array.mem_toList_iff]
 constructor
 ·rintro⟨e,he,h⟩
  by_cases hb:Region.binds .any e=true
  ·simp[hb]at h;exact⟨e,he,hb,h⟩
  ·simp[hb]at h
 ·rintro⟨e,he,hb,rfl⟩
  exact⟨e,he,by simp[hb]⟩
def yJ(i t:Nat)(ops:List Oper):Bool:=ops.all fun o=>match o.dst with
 | some d=>!Nat.beq d t||(sE o).any (Nat.beq i)
 | none=>true
def iN(t:Nat)(ops:List Oper):Bool:=ops.all fun o=>match o.dst with
 | some d=>!Nat.beq d t
 | none=>true
def HG:Nat→List Oper→Bool
 | _,[]=>true
 | i,o::l=>(sE o).all (Nat.blt · i)&&HG (i+1) l
theorem yF{ops:List Oper}:∀{k:Nat},HG k ops=true→∀i o,ops[i]? = some o→∀j∈sE o,j<k+i:=by
 induction ops with
 | nil=>intro k _ i o h;simp at h
 | cons o' l ih=>
  intro k h i o hi j hj
  simp only[HG,Bool.and_eq_true,List.all_eq_true]at h
  cases i with
  | zero=>simp at hi;subst hi;have:=h.1 j hj;simpa [Nat.blt_eq]using this
  | succ i=>have:=ih h.2 i o (by simpa using hi) j hj;omega
def rI:List Oper→Bool
 | []=>true
 | o::l=>(match o.dst with | some d=>iN d l | none=>true)&&rI l
theorem lH{t:Nat}{ops:List Oper}(h:iN t ops=true):∀o∈ops,o.dst≠some t:=by
 intro o ho hd
 have:=List.all_eq_true.1 h o ho
 rw[hd]at this
 simp at this
theorem sI{ops:List Oper}(h:rI ops=true):∀(i j:Nat) (o o':Oper) (d:Tmp),ops[i]? = some o→ops[j]? = some o'→o.dst=some d→o'.dst=some d→i=j:=by
 induction ops with
 | nil=>intro i j o o' d h;simp at h
 | cons p l ih=>
  simp only[rI,Bool.and_eq_true]at h
  intro i j o o' d hi hj ho ho'
  cases i with
  | zero=>
   cases j with
   | zero=>rfl
   | succ j=>
    simp at hi hj;subst hi
    have h1:=h.1
    rw[ho]at h1
    exact absurd ho' (lH h1 o' (List.mem_of_getElem? hj))
  | succ i=>
   cases j with
   | zero=>
    simp at hi hj;subst hj
    have h1:=h.1
    rw[ho']at h1
    exact absurd ho (lH h1 o (List.mem_of_getElem? hi))
   | succ j=>rw[ih h.2 i j o o' d (by simpa using hi) (by simpa using hj) ho ho']
structure BM (ops:List Oper) (L0:List (Nat×Value)) (w0:World) (V:Nat→Value→World→Prop) (i:Nat) (o:Oper) (L:List (Nat×Value)) (w:World):Prop where
 ex:Ex w0 w
 old:∀t v,iF L0 t=some v→yJ i t ops=true→iF L t=some v
 dep:∀j d,(sE o).any (Nat.beq j)=true→(ops[j]?).bind (·.dst)=some d→∃v,iF L d=some v∧V j v w
def WL(P:Program)(ops:List Oper)(L0:List (Nat×Value))(w0:World)(V:Nat→Value→World→Prop):Nat→List Oper→Prop
 | _,[]=>True
 | i,o::l=>(∀L w,BM ops L0 w0 V i o L w→gG P ops.toArray o L w fun v w'=>V i v w'∧Ex w w')∧WL P ops L0 w0 V (i+1) l
theorem WL.spec{P:Program}{ops:List Oper}{L0:List (Nat×Value)}{w0:World}{V:Nat→Value→World→Prop}:∀{l:List Oper}{k:Nat},WL P ops L0 w0 V k l→∀i o,l[i]? = some o→∀L w,BM ops L0 w0 V (k+i) o L w→gG P ops.toArray o L w fun v w'=>V (k+i) v w'∧Ex w w'
 | [],_,_,i,o,hi=>by simp at hi
 | p::l,k,h,i,o,hi=>by
  cases i with
  | zero=>simp at hi;subst hi;exact h.1
  | succ i=>
   have:=WL.spec h.2 i o (by simpa using hi)
   rwa[show k+1+i=k+(i+1)by omega]at this
def NG:Nat→Array Value→List (Nat×Value)
 | 0,_=>[]
 | n+1,a=>(n,a.getD n undef)::NG n a
theorem SE(a:Array Value):∀n t,t<n→iF (NG n a) t=some (a.getD t undef)
 | n+1,t,h=>by
  simp only[NG,iF]
  by_cases ht:n=t
  ·subst ht;simp
  ·rw[qG ht];exact SE a n t (by omega)
theorem aF(a:Array Value):∀n t v,iF (NG n a) t=some v→a.getD t undef=v
 | n+1,t,v,h=>by
  simp only[NG,iF]at h
  by_cases ht:n=t
  ·subst ht;simpa using h
  ·rw[qG ht]at h;exact aF a n t v h
end Go.X
